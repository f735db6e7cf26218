/- Texts of the proof. -/
import Derived.Test.YtkpngkdgphojlaaGreatCd18
import Derived.Test.YtkpngkdgphojlaaGreatCd34
set_option linter.all false
namespace Go.Proofs.YtkpngkdgphojlaaGreat
open Go.Proofs.Tryz
open Go.RowKit
structure QW (V:World) (T B D:Nat) (a:Option Addr) (c:Nat) (l:List Int) (cc:List Value) (ga:Option Addr) (gc:Nat) (rows:List (List Value)) (si:List (Option Addr×Nat×List Int)) (W:World):Prop where
 tape:aY W T a c l
 box:aJ W B 32 cc
 ext:Ext V W
 own:aN W D 24 6 (.slice ga rows.length gc) rows
 si: ∀s∈si,aD W s.1 s.2.1 s.2.2∧ ∀p,s.1=some p→D≤p.block∧p.block<W.heap.size∧ ∀q,ga=some q→p.block≠q.block
 pos:V.heap.size≤T∧V.heap.size≤B∧T≠B∧T<D∧B<D∧D≤W.heap.size
theorem QW.jQ {V W:World} {T B D:Nat} {a:Option Addr} {c:Nat} {l:List Int} {cc:List Value} {ga:Option Addr} {gc:Nat} {rows:List (List Value)} {si:List (Option Addr×Nat×List Int)} (h:QW V T B D a c l cc ga gc rows si W): ∀q,ga=some q→D≤q.block∧q.block<W.heap.size:=fun q hq=>h.own.own.lt q.block (by rw [hq];rfl)
theorem QW.next {V W W':World} {T B D:Nat} {a:Option Addr} {c:Nat} {l:List Int} {cc:List Value} {ga:Option Addr} {gc:Nat} {rows:List (List Value)} {si:List (Option Addr×Nat×List Int)} (h:QW V T B D a c l cc ga gc rows si W) (hT:aY W' T a c l) (hx:ar T W W'):QW V T B D a c l cc ga gc rows si W':=by
 have hp:=h.pos;have hs:=hx.size
 refine ⟨hT,h.box.but hx (by omega),hx.ext h.ext (by omega),h.own.but hx (by omega),fun s hm=> ?_,by omega⟩;obtain ⟨h1,h2⟩:=h.si s hm;exact ⟨h1.dA hx (fun p e=>by have:=h2 p e;omega),fun p e=>by have h3:=h2 p e;exact ⟨h3.1,by omega,h3.2.2⟩⟩
theorem QW.grow {V W W':World} {T B D:Nat} {a:Option Addr} {c:Nat} {l:List Int} {cc:List Value} {ga:Option Addr} {gc:Nat} {rows:List (List Value)} {si:List (Option Addr×Nat×List Int)} (h:QW V T B D a c l cc ga gc rows si W) (hx:Ext W W'):QW V T B D a c l cc ga gc rows si W':=h.next (h.tape.ext hx) (hx.but T)
theorem QW.but {V W W':World} {T B D K:Nat} {a:Option Addr} {c:Nat} {l:List Int} {cc:List Value} {ga:Option Addr} {gc:Nat} {rows:List (List Value)} {si:List (Option Addr×Nat×List Int)} (h:QW V T B D a c l cc ga gc rows si W) (hx:ar K W W') (hK:D≤K) (hg: ∀q,ga=some q→q.block≠K) (hi: ∀s∈si,∀p,s.1=some p→p.block≠K):QW V T B D a c l cc ga gc rows si W':=by
 have hp:=h.pos;have hs:=hx.size
 refine ⟨h.tape.but hx (by omega),h.box.but hx (by omega),hx.ext h.ext (by omega),EB h.own hx hg,fun s hm=> ?_,by omega⟩;obtain ⟨h1,h2⟩:=h.si s hm;exact ⟨h1.dA hx (hi s hm),fun p q=>by have h3:=h2 p q;exact ⟨h3.1,by omega,h3.2.2⟩⟩
theorem QW.Be {V W:World} {T B D:Nat} {a:Option Addr} {c:Nat} {l:List Int} {cc:List Value} {ga:Option Addr} {gc:Nat} {rows:List (List Value)} {si:List (Option Addr×Nat×List Int)} (h:QW V T B D a c l cc ga gc rows si W) {b:Option Addr} {k:Nat} {z:List Int} (hi:aD W b k z) (hb: ∀p,b=some p→D≤p.block∧p.block<W.heap.size∧ ∀q,ga=some q→p.block≠q.block):QW V T B D a c l cc ga gc rows (si++ [(b,k,z)]) W:=by
 refine {h with si:=fun s hm=> ?_};rcases List.mem_append.1 hm with e1|e1
 ·exact h.si s e1
 ·rw [List.mem_singleton]at e1;subst e1;exact ⟨hi,hb⟩
theorem QW.push {V W w5:World} {T B D:Nat} {a:Option Addr} {c:Nat} {l:List Int} {cc:List Value} {ga:Option Addr} {gc:Nat} {rows:List (List Value)} {si:List (Option Addr×Nat×List Int)} (h:QW V T B D a c l cc ga gc rows si W) {r:List Value} {v1:Value} (hr:r.length=6)
 (ho:w5.ownsRow D 24 6 v1 (rows.length+1) (rows.flatten++r)) (he: ∀a0,Ext a0 W→a0.heap.size≤D→Ext a0 w5) (hb: ∀k,k<W.heap.size→some k≠Value.ownBlock (.slice ga rows.length gc)→w5.heap[k]?=W.heap[k]?) (hz:W.heap.size≤w5.heap.size)
 (hv:v1.ownBlock=Value.ownBlock (.slice ga rows.length gc)∨ ∃g,v1.ownBlock=some g∧W.heap.size≤g):
 ∃g2 k2,v1= .slice g2 (rows.length+1) k2∧QW V T B D a c l cc g2 k2 (rows++ [r]) si w5:=by
 obtain ⟨g2,k2,rfl⟩:=je ho;have hp:=h.pos;obtain ⟨K,NR,Kj,hKx⟩:=iB (base:=D) (v:= .slice ga rows.length gc) hp.2.2.2.2.2 (fun k q=>(h.own.own.lt k q).1) he hb hz
 have NT:K=W.heap.size∨ ∃q,ga=some q∧q.block=K:=by
  rcases Kj with q|q
  ·exact .inl q
  ·cases ga with
   |none=>cases q
   |some q'=>exact .inr ⟨q',rfl,by have e2:some q'.block=some K:=q;cases e2;rfl⟩
 have hg2: ∀q,g2=some q→(∃q0,ga=some q0∧q.block=q0.block)∨W.heap.size≤q.block:=fun q hq=>by
  subst hq;rcases hv with e1|⟨g,e1,e2⟩
  ·cases ga with
   |none=>cases e1
   |some q'=>exact .inl ⟨q',rfl,by have e3:some q.block=some q'.block:=e1;exact Option.some.inj e3⟩
  ·have e3:some q.block=some g:=e1
   cases e3;exact .inr e2
 have hs5:=hKx.size;refine ⟨g2,k2,rfl,h.tape.but hKx (by omega),h.box.but hKx (by omega),hKx.ext h.ext (by omega),?_,fun s hm=> ?_,by omega⟩
 ·have h5:=h.own.snoc (w':=w5) hr ho
  rw [List.length_append];exact h5
 ·obtain ⟨h1,h2⟩:=h.si s hm
  refine ⟨h1.dA hKx (fun p q=> ?_),fun p q=> ?_⟩
  ·have h3:=h2 p q
   rcases NT with e|⟨q',q1,q2⟩
   ·omega
   ·have:=h3.2.2 q' q1;omega
  ·have h3:=h2 p q
   refine ⟨h3.1,by omega,fun q' hq'=> ?_⟩;rcases hg2 q' hq' with⟨q0,h5,h6⟩|h5
   ·have:=h3.2.2 q0 h5;omega
   ·omega
theorem QW.far {V W:World} {T B D:Nat} {a:Option Addr} {c:Nat} {l:List Int} {cc:List Value} {ga:Option Addr} {gc:Nat} {rows:List (List Value)} {si:List (Option Addr×Nat×List Int)} (h:QW V T B D a c l cc ga gc rows si W):(∀q,ga=some q→q.block<W.heap.size)∧(∀s∈si,∀p,s.1=some p→p.block<W.heap.size):=
 ⟨fun q hq=>(h.jQ q hq).2,fun s hm p hp=>((h.si s hm).2 p hp).2.1⟩
def Te (l:List tL):List (Option Addr×Nat×List Int):=l.map fun x=>(x.ua,x.uc,x.au)
structure DN (w:World) (a:Option Addr) (c:Nat) (l:List tL):Prop where
 rows:bS w 6 a c (l.map tL.cells)
 au: ∀x∈l,aD w x.ua x.uc x.au
theorem DN.ext {w w':World} {a:Option Addr} {c:Nat} {l:List tL} (h:DN w a c l) (e:Ext w w'):DN w' a c l:=⟨h.rows.ext e,fun x hx=>(h.au x hx).ext e⟩
theorem QW.fr {V W:World} {T B D:Nat} {a:Option Addr} {c:Nat} {l:List Int} {cc:List Value} {ga:Option Addr} {gc:Nat} {xs:List tL} (h:QW V T B D a c l cc ga gc (xs.map tL.cells) (Te xs) W): ∀x∈xs,Fr V.heap.size x.ua:=fun x hx p hp=>by
 have h1:=(h.si (x.ua,x.uc,x.au) (List.mem_map.2 ⟨x,hx,rfl⟩)).2 p hp;have h2:=h.pos;omega
structure B_ (us:List Nat) (u:Nat):Prop where
 FN:us.Pairwise (· < ·)
 lt: ∀z∈us,z<u
theorem B_.nil:B_ [] 0:=⟨List.Pairwise.nil,fun z hz=>by cases hz⟩
theorem B_.next {us:List Nat} {u:Nat} (h:B_ us u):B_ us (u+1):=⟨h.FN,fun z hz=>Nat.lt_succ_of_lt (h.lt z hz)⟩
theorem B_.snoc {us:List Nat} {u:Nat} (h:B_ us u):B_ (us++ [u]) (u+1):=by
 refine ⟨?_,fun z hz=> ?_⟩
 ·rw [List.pairwise_append]
  exact ⟨h.FN,List.pairwise_singleton _ _,fun x hx y hy=>by rw [List.mem_singleton]at hy;subst hy;exact h.lt x hx⟩
 ·rcases List.mem_append.1 hz with e|e
  ·exact Nat.lt_succ_of_lt (h.lt z e)
  ·rw [List.mem_singleton]at e;omega
theorem tL.one (x:tL):x.cells.all (·.oneCell')=true:=rfl
structure jR (x:cA) (i:Nat) (hours:Nat):Prop where
 name:x.name=aI 98 i
 len:x.bP.length=hours
 bP: ∀z∈x.bP,0≤z∧z<14
 gC:x.gC=0∨(100≤x.gC∧x.gC<300)
structure mB (x:bj) (nb:Nat):Prop where
 name:x.name={data:= #[115,48]}
 bus:0≤x.bus∧x.bus<nb
 capacity:0≤x.capacity∧x.capacity<20
 initial:0≤x.initial∧x.initial≤x.capacity
 final:0≤x.final∧x.final≤x.capacity
 dg:0≤x.dg∧x.dg<8
 discharge:0≤x.discharge∧x.discharge<8
 V9:1≤x.en∧x.en≤4∧x.ed=4
structure EX (x:dS) (nb hours:Nat):Prop where
 name:x.name={data:= #[116,48]}
 bus:0≤x.bus∧x.bus<nb
 imp:x.imp.length=hours∧ ∀z∈x.imp,0≤z∧z<12
 exp:x.exp.length=hours∧ ∀z∈x.exp,0≤z∧z<12
 aX:x.aX.length=hours∧ ∀z∈x.aX,0≤z∧z<40
def fH (l:List aP) (nb hh:Nat):Prop:= ∀j (hj:j<l.length),∃fr tb,fr<nb∧tb<nb∧fr≠tb∧o6 l[j] j fr tb hh
def js (l:List aF) (nb hh:Nat):Prop:= ∀j (hj:j<l.length),∃bu,bu<nb∧rF l[j] j bu hh
def pn (l:List bB) (nl nu:Nat):Prop:= ∀j (hj:j<l.length),xQ l[j] j nl nu
structure fI (hh nb:Nat) (c:ai):Prop where
 hours:c.hours=(hh:Int)
 hr:1≤hh∧hh≤3
 res:c.aV.length=hh∧ ∀z∈c.aV,0≤z∧z<5
 OZ:c.ak.length=nb∧1≤nb∧nb≤4
 bus: ∀j (hj:j<c.ak.length),jR c.ak[j] j hh
 lines:c.lines.length≤7
 line:fH c.lines nb hh
 au:1≤c.au.length∧c.au.length≤3
 unit:js c.au nb hh
 stores:c.stores.length≤1
 store: ∀s∈c.stores,mB s nb
 aL:c.aL.length≤1
 tie: ∀t∈c.aL,EX t nb hh
 outs:c.outs.length≤3
 o:pn c.outs c.lines.length c.au.length
theorem fI.lens {hh nb:Nat} {c:ai} (h:fI hh nb c):oW c:=by
 have h1:=h.OZ;have h2:=h.lines;have h3:=h.au;have h4:=h.stores;have h5:=h.aL;have h6:=h.outs
 refine ⟨by omega,by omega,by omega,by omega,by omega,by omega,fun o ho=> ?_⟩;obtain ⟨j,hj,rfl⟩:=List.getElem_of_mem ho;have:=(h.o j hj).moves.len;omega
theorem mC: ∀(l:List dp),(∀g∈l,1≤g.width∧g.width≤15∧ -2≤g.aX∧g.aX≤40)→0≤bR l∧bR l≤15*l.length
 | [],_=>by simp [bR]
 |g::l,h=>by
  have h1:=mC l (fun g hg=>h g (List.mem_cons_of_mem _ hg));have h2:=h g (by simp);have h3:bR (g::l)=g.width+bR l:=by simp [bR]
  rw [h3,List.length_cons];omega
end Go.Proofs.YtkpngkdgphojlaaGreat
