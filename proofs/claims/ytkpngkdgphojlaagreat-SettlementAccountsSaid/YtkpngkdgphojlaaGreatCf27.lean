/- Texts of the proof. -/
import Derived.Test.YtkpngkdgphojlaaGreatCf13
import Derived.Test.YtkpngkdgphojlaaGreatCf17
set_option linter.all false
namespace Go.Proofs.YtkpngkdgphojlaaGreat
open Go.Proofs.Tryz
open Go.RowKit
def bT (P:Nat→Prop) (a:Option Addr):Prop:= ∀p,a=some p→P p.block
theorem bT.none (P:Nat→Prop):bT P Option.none:=fun _ h=>by cases h
theorem bT.mono {P Q:Nat→Prop} {a:Option Addr} (h:bT P a) (hp: ∀b,P b→Q b):bT Q a:=fun p e=>hp _ (h p e)
structure bZ (P:Nat→Prop) (c:ai):Prop where
 aA:bT P c.ra
 aj:bT P c.ba
 cS: ∀b∈c.aj,bT P b.da
 lines:bT P c.la
 line: ∀l∈c.lines,bT P l.aa
 aq:bT P c.ua
 unit: ∀u∈c.aq,bT P u.sa∧bT P u.aa
 stores:bT P c.sa
 aB:bT P c.ta
 tie: ∀t∈c.aB,bT P t.ia∧bT P t.ea∧bT P t.pa
 outs:bT P c.oa
 o: ∀o∈c.outs,bT P o.la∧bT P o.ma
theorem bZ.mono {P Q:Nat→Prop} {c:ai} (h:bZ P c) (hp: ∀b,P b→Q b):bZ Q c:=
 ⟨h.aA.mono hp,h.aj.mono hp,fun b hb=>(h.cS b hb).mono hp,h.lines.mono hp,fun l hl=>(h.line l hl).mono hp,h.aq.mono hp,fun u hu=>⟨(h.unit u hu).1.mono hp,(h.unit u hu).2.mono hp⟩,h.stores.mono hp,h.aB.mono hp,
   fun t ht=>⟨(h.tie t ht).1.mono hp,(h.tie t ht).2.1.mono hp,(h.tie t ht).2.2.mono hp⟩,h.outs.mono hp,fun o ho=>⟨(h.o o ho).1.mono hp,(h.o o ho).2.mono hp⟩⟩
def eZ (c:ai) (q:Addr):Prop:=c.ba=some q∨c.la=some q∨c.ua=some q∨c.sa=some q∨c.ta=some q∨c.oa=some q
theorem bZ.outer {P:Nat→Prop} {c:ai} (h:bZ P c): ∀q,eZ c q→P q.block:=fun q hq=>by
 rcases hq with e|e|e|e|e|e<;>first|exact h.aj q e|exact h.lines q e|exact h.aq q e|exact h.stores q e|exact h.aB q e|exact h.outs q e
def bA (c:ai) (b:Nat):Prop:= ∀q,eZ c q→b≠q.block
theorem bA.join {x0 x':ai} {b:Nat} {ga:Option Addr} (h:bA x0 b) (ho: ∀q,eZ x' q→eZ x0 q∨ga=some q) (hb: ∀q,ga=some q→b≠q.block):bA x' b:=fun q hq=>by
 rcases ho q hq with e|e
 ·exact h q e
 ·exact hb q e
structure nz (P:Nat→Prop) (c:ai):Prop where
 aA:bT P c.ra
 cS: ∀b∈c.aj,bT P b.da
 line: ∀l∈c.lines,bT P l.aa
 unit: ∀u∈c.aq,bT P u.sa∧bT P u.aa
 tie: ∀t∈c.aB,bT P t.ia∧bT P t.ea∧bT P t.pa
 o: ∀o∈c.outs,bT P o.la∧bT P o.ma
theorem nz.Yq {P Q R:Nat→Prop} {c:ai} (h:nz P c) (g:bZ Q c) (hp: ∀b,P b→Q b→R b):nz R c:=
 ⟨fun p e=>hp _ (h.aA p e) (g.aA p e),fun b hb p e=>hp _ (h.cS b hb p e) (g.cS b hb p e),fun l hl p e=>hp _ (h.line l hl p e) (g.line l hl p e),
   fun u hu=>⟨fun p e=>hp _ ((h.unit u hu).1 p e) ((g.unit u hu).1 p e),fun p e=>hp _ ((h.unit u hu).2 p e) ((g.unit u hu).2 p e)⟩,
   fun t ht=>⟨fun p e=>hp _ ((h.tie t ht).1 p e) ((g.tie t ht).1 p e),fun p e=>hp _ ((h.tie t ht).2.1 p e) ((g.tie t ht).2.1 p e),fun p e=>hp _ ((h.tie t ht).2.2 p e) ((g.tie t ht).2.2 p e)⟩,
   fun o ho=>⟨fun p e=>hp _ ((h.o o ho).1 p e) ((g.o o ho).1 p e),fun p e=>hp _ ((h.o o ho).2 p e) ((g.o o ho).2 p e)⟩⟩
def iU (w:World) (a:Option Addr) (T:TypeId):Prop:= ∀q,a=some q→ ∃g cur,q=⟨g,0,none⟩∧aQ w g T cur
theorem iU.none (w:World) (T:TypeId):iU w Option.none T:=fun _ h=>by cases h
theorem iU.of {w:World} {D m n gc:Nat} {e:TypeId} {ga:Option Addr} {rows:List (List Value)} (h:aJ w D e m (.slice ga n gc) rows):iU w ga e:=fun q hq=>by
 rcases h.own.2 with h0|⟨g,cap,cur,hv,hb,hc,hr⟩
 ·have h1:=h0.1
  simp only [Value.slice.injEq]at h1;rw [h1.1]at hq;cases hq
 ·simp only [Value.slice.injEq]at hv
  rw [hv.1]at hq;cases hq
  exact ⟨g,cur.toList,rfl,hc⟩
theorem iU.but {w w':World} {K:Nat} {a:Option Addr} {T:TypeId} (h:iU w a T) (x:ar K w w') (hb:bT (fun b=>b≠K) a):iU w' a T:=fun q hq=>by
 obtain ⟨g,cur,rfl,hA⟩:=h q hq;exact ⟨g,cur,rfl,hA.but x (hb _ hq)⟩
structure eh (w:World) (c:ai):Prop where
 ba:iU w c.ba 74
 la:iU w c.la 78
 ua:iU w c.ua 67
 sa:iU w c.sa 82
 ta:iU w c.ta 84
 oa:iU w c.oa 87
 off:nz (bA c) c
theorem eh.but {w w':World} {c:ai} {K:Nat} (h:eh w c) (x:ar K w w') (hb: ∀q,eZ c q→q.block≠K):eh w' c:=
 ⟨h.ba.but x fun q e=>hb q (.inl e),h.la.but x fun q e=>hb q (.inr (.inl e)),h.ua.but x fun q e=>hb q (.inr (.inr (.inl e))),h.sa.but x fun q e=>hb q (.inr (.inr (.inr (.inl e)))),h.ta.but x fun q e=>hb q (.inr (.inr (.inr (.inr (.inl e))))),h.oa.but x fun q e=>hb q (.inr (.inr (.inr (.inr (.inr e))))),h.off⟩
theorem iU.ext {w w':World} {a:Option Addr} {T:TypeId} (h:iU w a T) (x:Ext w w'):iU w' a T:=fun q hq=>by
 obtain ⟨g,cur,rfl,hA⟩:=h q hq;exact ⟨g,cur,rfl,hA.ext x⟩
theorem eh.ext {w w':World} {c:ai} (h:eh w c) (x:Ext w w'):eh w' c:=⟨h.ba.ext x,h.la.ext x,h.ua.ext x,h.sa.ext x,h.ta.ext x,h.oa.ext x,h.off⟩
theorem kj {x0 x':ai} {D:Nat} {ga:Option Addr} (off:nz (bA x0) x0) (old:bZ (fun b=>b<D) x0) (Vs: ∀q,ga=some q→D≤q.block) (ho: ∀q,eZ x' q→eZ x0 q∨ga=some q):nz (bA x') x0:=
 off.Yq old fun b h1 h2=>h1.join ho fun q e=>by have:=Vs q e;omega
theorem a_.but {w w':World} {c:ai} {K:Nat} (h:a_ w c) (x:ar K w w') (hb:bZ (fun b=>b≠K) c):a_ w' c:=
 ⟨h.hours,h.aA.dC x hb.aA,h.aj.but x hb.aj,fun b hm=>⟨(h.cS b hm).1,(h.cS b hm).2.1.dC x (hb.cS b hm),(h.cS b hm).2.2⟩,h.lines.but x hb.lines,fun l hl=>⟨(h.line l hl).1,(h.line l hl).2.1.dC x (hb.line l hl),(h.line l hl).2.2⟩,
   h.aq.but x hb.aq,fun u hu=>⟨(h.unit u hu).1,(h.unit u hu).2.1.dC x (hb.unit u hu).2,(h.unit u hu).2.2.1.but x (hb.unit u hu).1,(h.unit u hu).2.2.2⟩,h.stores.but x hb.stores,h.store,h.aB.but x hb.aB,
   fun t ht=>⟨(h.tie t ht).1,(h.tie t ht).2.1.dC x (hb.tie t ht).1,(h.tie t ht).2.2.1.dC x (hb.tie t ht).2.1,(h.tie t ht).2.2.2.1.dC x (hb.tie t ht).2.2,(h.tie t ht).2.2.2.2⟩,
   h.outs.but x hb.outs,fun o ho=>⟨(h.o o ho).1,(h.o o ho).2.1.dC x (hb.o o ho).1,(h.o o ho).2.2.1.but x (hb.o o ho).2,(h.o o ho).2.2.2⟩⟩
def lS:ai:=⟨0,none,0,[],none,0,[],none,0,[],none,0,[],none,0,[],none,0,[],none,0,[]⟩
structure CW (V:World) (T R X:Nat) (a:Option Addr) (c:Nat) (l:List Int) (cs:List Value) (x:ai) (W:World):Prop where
 tape:bJ W T a c l
 b_:aQ W X 32 cs
 res:aQ W R 32 lS.cells
 ext:Ext V W
 case':a_ W x
 bl:bZ (fun b=>X<b∧b<W.heap.size) x
 pos:V.heap.size≤T∧V.heap.size≤R∧T≠R∧T<X∧R<X
 sep:eh W x
theorem CW.next {V W W':World} {T R X:Nat} {a:Option Addr} {c:Nat} {l:List Int} {cs:List Value} {x:ai} (h:CW V T R X a c l cs x W) (hT:bJ W' T a c l) (hx:ar T W W'):CW V T R X a c l cs x W':=by
 have hp:=h.pos;have hs:=hx.size;exact ⟨hT,h.b_.but hx (by omega),h.res.but hx (by omega),hx.ext h.ext (by omega),h.case'.but hx (h.bl.mono fun b hb=>by omega),h.bl.mono fun b hb=>by omega,h.pos,h.sep.but hx fun q hq=>by have:=h.bl.outer q hq;omega⟩
theorem CW.grow {V W W':World} {T R X:Nat} {a:Option Addr} {c:Nat} {l:List Int} {cs:List Value} {x:ai} (h:CW V T R X a c l cs x W) (hx:Ext W W'):CW V T R X a c l cs x W':=h.next (h.tape.ext hx) (hx.but T)
theorem CW.but {V W W':World} {T R X K:Nat} {a:Option Addr} {c:Nat} {l:List Int} {cs:List Value} {x:ai} (h:CW V T R X a c l cs x W) (hx:ar K W W') (hK:X<K) (hb:bZ (fun b=>b≠K) x):CW V T R X a c l cs x W':=by
 have hp:=h.pos;have hs:=hx.size;exact ⟨h.tape.but hx (by omega),h.b_.but hx (by omega),h.res.but hx (by omega),hx.ext h.ext (by omega),h.case'.but hx hb,h.bl.mono fun b hb=>by omega,h.pos,h.sep.but hx hb.outer⟩
theorem CW.set {V W:World} {T R X:Nat} {a:Option Addr} {c:Nat} {l:List Int} {cs:List Value} {x x':ai} (h:CW V T R X a c l cs x W) (j:Nat) (v:Value) (hc:a_ W x') (hb:bZ (fun b=>X<b∧b<W.heap.size) x') (hS:eh W x'):CW V T R X a c l (cs.set j v) x' (W.setCell ⟨X,j,none⟩ v):=by
 have hp:=h.pos;have hx:=((ar.refl X W).eL (o:=j) (v:=v));have hs:=hx.size;exact ⟨h.tape.but hx (by omega),h.b_.set j v,h.res.but hx (by omega),hx.ext h.ext (by omega),hc.but hx (hb.mono fun b hb=>by omega),hb.mono fun b hb=>by omega,h.pos,hS.but hx fun q hq=>by have:=hb.outer q hq;omega⟩
structure iJ (V:World) (T R X D:Nat) (a:Option Addr) (c:Nat) (l:List Int) (cs:List Value) (x0:ai) (e:TypeId) (m:Nat) (ga:Option Addr) (gc:Nat) (rows:List (List Value)) (si:List (Option Addr×Nat×List Int)) (sr:List (Option Addr×Nat×Nat×List (List Value))) (W:World):Prop where
 cw:CW V T R X a c l cs x0 W
 own:aJ W D e m (.slice ga rows.length gc) rows
 si: ∀s∈si,aI W s.1 s.2.1 s.2.2∧ ∀p,s.1=some p→X<p.block∧p.block<W.heap.size∧(∀q,ga=some q→p.block≠q.block)∧bA x0 p.block
 sr: ∀s∈sr,bH W s.2.2.1 s.1 s.2.1 s.2.2.2∧ ∀p,s.1=some p→X<p.block∧p.block<W.heap.size∧(∀q,ga=some q→p.block≠q.block)∧bA x0 p.block
 old:bZ (fun b=>b<D) x0
 size:D≤W.heap.size
 lo:X<D
theorem iJ.next {V W W':World} {T R X D:Nat} {a:Option Addr} {c:Nat} {l:List Int} {cs:List Value} {x0:ai} {e:TypeId} {m:Nat} {ga:Option Addr} {gc:Nat} {rows:List (List Value)} {si:List (Option Addr×Nat×List Int)} {sr:List (Option Addr×Nat×Nat×List (List Value))}
 (h:iJ V T R X D a c l cs x0 e m ga gc rows si sr W) (hT:bJ W' T a c l) (hx:ar T W W'):iJ V T R X D a c l cs x0 e m ga gc rows si sr W':=by
 have hp:=h.cw.pos;have hs:=hx.size;have DK:=h.lo;have hsz:=h.size
 refine ⟨h.cw.next hT hx,h.own.but hx (by omega),fun s hm=> ?_,fun s hm=> ?_,h.old,by omega,h.lo⟩
 ·obtain ⟨h1,h2⟩:=h.si s hm
  exact ⟨h1.dC hx (fun p e=>by have:=h2 p e;omega),fun p e=>by have h3:=h2 p e;exact ⟨h3.1,by omega,h3.2.2⟩⟩
 ·obtain ⟨h1,h2⟩:=h.sr s hm
  exact ⟨h1.but hx (fun p e=>by have:=h2 p e;omega),fun p e=>by have h3:=h2 p e;exact ⟨h3.1,by omega,h3.2.2⟩⟩
theorem iJ.grow {V W W':World} {T R X D:Nat} {a:Option Addr} {c:Nat} {l:List Int} {cs:List Value} {x0:ai} {e:TypeId} {m:Nat} {ga:Option Addr} {gc:Nat} {rows:List (List Value)} {si:List (Option Addr×Nat×List Int)} {sr:List (Option Addr×Nat×Nat×List (List Value))}
 (h:iJ V T R X D a c l cs x0 e m ga gc rows si sr W) (hx:Ext W W'):iJ V T R X D a c l cs x0 e m ga gc rows si sr W':=h.next (h.cw.tape.ext hx) (hx.but T)
theorem iJ.km {V W:World} {T R X D:Nat} {a:Option Addr} {c:Nat} {l:List Int} {cs:List Value} {x0:ai} {e:TypeId} {m:Nat} {ga:Option Addr} {gc:Nat} {rows:List (List Value)} {si:List (Option Addr×Nat×List Int)} {sr:List (Option Addr×Nat×Nat×List (List Value))}
 (h:iJ V T R X D a c l cs x0 e m ga gc rows si sr W): ∀q,ga=some q→D≤q.block∧q.block<W.heap.size:=fun q hq=>by
 have h1:=h.own.own.lt q.block (by rw [hq];rfl);exact h1
theorem iJ.DL {V W W':World} {T R X D:Nat} {a:Option Addr} {c:Nat} {l:List Int} {cs:List Value} {x0:ai} {e:TypeId} {m:Nat} {ga:Option Addr} {gc:Nat} {rows:List (List Value)} {si:List (Option Addr×Nat×List Int)} {sr:List (Option Addr×Nat×Nat×List (List Value))}
 (h:iJ V T R X D a c l cs x0 e m ga gc rows si sr W) {b:Option Addr} {k:Nat} {z:List Int} (hT:bJ W' T a c l) (hx:ar T W W') (hi:aI W' b k z) (hf:Fr W.heap.size b) (hb: ∀p,b=some p→p.block<W'.heap.size):iJ V T R X D a c l cs x0 e m ga gc rows (si++ [(b,k,z)]) sr W':=by
 have h':=h.next hT hx;refine {h' with si:=fun s hm=> ?_};rcases List.mem_append.1 hm with e1|e1
 ·exact h'.si s e1
 ·rw [List.mem_singleton]at e1;subst e1
  refine ⟨hi,fun p hp=> ?_⟩;replace hp:b=some p:=hp;have h1:=hf p hp;have h2:=h.lo;have h3:=h.size
  exact ⟨by omega,hb p hp,fun q hq=>by have:=(h.km q hq).2;omega,fun q hq=>by have:=h.cw.bl.outer q hq;omega⟩
theorem iJ.Yr {V W W':World} {T R X D:Nat} {a:Option Addr} {c:Nat} {l:List Int} {cs:List Value} {x0:ai} {e:TypeId} {m:Nat} {ga:Option Addr} {gc:Nat} {rows:List (List Value)} {si:List (Option Addr×Nat×List Int)} {sr:List (Option Addr×Nat×Nat×List (List Value))}
 (h:iJ V T R X D a c l cs x0 e m ga gc rows si sr W) {b:Option Addr} {k n:Nat} {z:List (List Value)} (hT:bJ W' T a c l) (hx:ar T W W') (hi:bH W' n b k z) (hf:Fr W.heap.size b) (hb: ∀p,b=some p→p.block<W'.heap.size):iJ V T R X D a c l cs x0 e m ga gc rows si (sr++ [(b,k,n,z)]) W':=by
 have h':=h.next hT hx;refine {h' with sr:=fun s hm=> ?_};rcases List.mem_append.1 hm with e1|e1
 ·exact h'.sr s e1
 ·rw [List.mem_singleton]at e1;subst e1
  refine ⟨hi,fun p hp=> ?_⟩;replace hp:b=some p:=hp;have h1:=hf p hp;have h2:=h.lo;have h3:=h.size
  exact ⟨by omega,hb p hp,fun q hq=>by have:=(h.km q hq).2;omega,fun q hq=>by have:=h.cw.bl.outer q hq;omega⟩
theorem iJ.push {V W w5:World} {T R X D:Nat} {a:Option Addr} {c:Nat} {l:List Int} {cs:List Value} {x0:ai} {e:TypeId} {m:Nat} {ga:Option Addr} {gc:Nat} {rows:List (List Value)} {si:List (Option Addr×Nat×List Int)} {sr:List (Option Addr×Nat×Nat×List (List Value))}
 (h:iJ V T R X D a c l cs x0 e m ga gc rows si sr W) {r:List Value} {v1:Value} (j:Nat) (hr:r.length=m)
 (ho:w5.ownsRow D e m v1 (rows.length+1) (rows.flatten++r)) (he: ∀a0,Ext a0 W→a0.heap.size≤D→Ext a0 w5) (hb: ∀k,k<W.heap.size→some k≠Value.ownBlock (.slice ga rows.length gc)→w5.heap[k]?=W.heap[k]?) (hz:W.heap.size≤w5.heap.size)
 (hv:v1.ownBlock=Value.ownBlock (.slice ga rows.length gc)∨ ∃g,v1.ownBlock=some g∧W.heap.size≤g):
 ∃g2 k2,v1= .slice g2 (rows.length+1) k2∧iJ V T R X D a c l cs x0 e m g2 k2 (rows++ [r]) si sr w5∧iJ V T R X D a c l (cs.set j (.slice g2 (rows.length+1) k2)) x0 e m g2 k2 (rows++ [r]) si sr (w5.setCell ⟨X,j,none⟩ (.slice g2 (rows.length+1) k2)):=by
 obtain ⟨g2,k2,rfl⟩:=fg ho;have DK:=h.lo;have hsz:=h.size
 obtain ⟨K,M9,Lr,hKx⟩:=jM (base:=D) (v:= .slice ga rows.length gc) hsz (fun k q=>(h.own.own.lt k q).1) he hb hz
 have Ys:K=W.heap.size∨ ∃q,ga=some q∧q.block=K:=by
  rcases Lr with q|q
  ·exact .inl q
  ·cases ga with
   |none=>cases q
   |some q'=>exact .inr ⟨q',rfl,by have e2:some q'.block=some K:=q;cases e2;rfl⟩
 have Js: ∀p:Addr,X<p.block∧p.block<W.heap.size∧(∀q,ga=some q→p.block≠q.block)∧bA x0 p.block→p.block≠K:=fun p hp=>by
  rcases Ys with q|⟨q,q1,q2⟩
  ·omega
  ·have:=hp.2.2.1 q q1;omega
 have hg2: ∀q,g2=some q→(∃q0,ga=some q0∧q.block=q0.block)∨W.heap.size≤q.block:=fun q hq=>by
  subst hq;rcases hv with e1|⟨g,e1,e2⟩
  ·cases ga with
   |none=>cases e1
   |some q'=>exact .inl ⟨q',rfl,by have e3:some q.block=some q'.block:=e1;exact Option.some.inj e3⟩
  ·have e3:some q.block=some g:=e1
   cases e3;exact .inr e2
 have hs5:=hKx.size
 have P5:iJ V T R X D a c l cs x0 e m g2 k2 (rows++ [r]) si sr w5:=by
  refine ⟨h.cw.but hKx (by omega) (h.old.mono fun b hb=>by omega),?_,fun s hm=> ?_,fun s hm=> ?_,h.old,by omega,h.lo⟩
  ·have h5:=h.own.snoc (w':=w5) hr ho
   rw [List.length_append];exact h5
  ·obtain ⟨h1,h2⟩:=h.si s hm
   refine ⟨h1.dC hKx (fun p q=>Js p (h2 p q)),fun p q=> ?_⟩;have h3:=h2 p q;refine ⟨h3.1,by omega,fun q' hq'=> ?_,h3.2.2.2⟩;rcases hg2 q' hq' with⟨q0,h5,h6⟩|h5
   ·have:=h3.2.2.1 q0 h5;omega
   ·omega
  ·obtain ⟨h1,h2⟩:=h.sr s hm
   refine ⟨h1.but hKx (fun p q=>Js p (h2 p q)),fun p q=> ?_⟩;have h3:=h2 p q;refine ⟨h3.1,by omega,fun q' hq'=> ?_,h3.2.2.2⟩;rcases hg2 q' hq' with⟨q0,h5,h6⟩|h5
   ·have:=h3.2.2.1 q0 h5;omega
   ·omega
 refine ⟨g2,k2,rfl,P5,?_⟩;have hx:=((ar.refl X w5).eL (o:=j) (v:= .slice g2 (rows.length+1) k2));have hs6:=hx.size;refine ⟨P5.cw.set j _ P5.cw.case' P5.cw.bl P5.cw.sep,P5.own.but hx DK,fun s hm=> ?_,fun s hm=> ?_,h.old,by have:=P5.size;omega,h.lo⟩
 ·obtain ⟨h1,h2⟩:=P5.si s hm
  exact ⟨h1.dC hx (fun p q=>by have:=h2 p q;omega),fun p q=>by have h3:=h2 p q;exact ⟨h3.1,by omega,h3.2.2⟩⟩
 ·obtain ⟨h1,h2⟩:=P5.sr s hm
  exact ⟨h1.but hx (fun p q=>by have:=h2 p q;omega),fun p q=>by have h3:=h2 p q;exact ⟨h3.1,by omega,h3.2.2⟩⟩
theorem Fg {W W':World} {D K m n gc:Nat} {e:TypeId} {ga:Option Addr} {rows:List (List Value)} (h:aJ W D e m (.slice ga n gc) rows) (hx:ar K W W') (hg: ∀q,ga=some q→q.block≠K):aJ W' D e m (.slice ga n gc) rows:=by
 refine ⟨⟨h.own.1,?_⟩,h.len⟩;rcases h.own.2 with h0|⟨g,cap,cur,hv,hb,hc,hr⟩
 ·exact .inl h0
 ·refine .inr ⟨g,cap,cur,hv,hb,?_,hr⟩
  have hne:g≠K:=by
   simp only [Value.slice.injEq]at hv;exact hg _ hv.1
  rw [hx.block g (Array.getElem?_eq_some_iff.1 hc).1 hne];exact hc
theorem iJ.but {V W W':World} {T R X D K:Nat} {a:Option Addr} {c:Nat} {l:List Int} {cs:List Value} {x0:ai} {e:TypeId} {m:Nat} {ga:Option Addr} {gc:Nat} {rows:List (List Value)} {si:List (Option Addr×Nat×List Int)} {sr:List (Option Addr×Nat×Nat×List (List Value))}
 (h:iJ V T R X D a c l cs x0 e m ga gc rows si sr W) (hx:ar K W W') (hK:D≤K) (hg: ∀q,ga=some q→q.block≠K) (hi: ∀s∈si,∀p,s.1=some p→p.block≠K) (hr: ∀s∈sr,∀p,s.1=some p→p.block≠K):iJ V T R X D a c l cs x0 e m ga gc rows si sr W':=by
 have DK:=h.lo;have hsz:=h.size;have hs:=hx.size
 refine ⟨h.cw.but hx (by omega) (h.old.mono fun b hb=>by omega),Fg h.own hx hg,fun s hm=> ?_,fun s hm=> ?_,h.old,by omega,h.lo⟩
 ·obtain ⟨h1,h2⟩:=h.si s hm
  exact ⟨h1.dC hx (hi s hm),fun p q=>by have h3:=h2 p q;exact ⟨h3.1,by omega,h3.2.2⟩⟩
 ·obtain ⟨h1,h2⟩:=h.sr s hm
  exact ⟨h1.but hx (hr s hm),fun p q=>by have h3:=h2 p q;exact ⟨h3.1,by omega,h3.2.2⟩⟩
theorem iJ.far {V W:World} {T R X D:Nat} {a:Option Addr} {c:Nat} {l:List Int} {cs:List Value} {x0:ai} {e:TypeId} {m:Nat} {ga:Option Addr} {gc:Nat} {rows:List (List Value)} {si:List (Option Addr×Nat×List Int)} {sr:List (Option Addr×Nat×Nat×List (List Value))}
 (h:iJ V T R X D a c l cs x0 e m ga gc rows si sr W):(∀q,ga=some q→q.block≠W.heap.size)∧(∀s∈si,∀p,s.1=some p→p.block≠W.heap.size)∧(∀s∈sr,∀p,s.1=some p→p.block≠W.heap.size):=
 ⟨fun q hq=>by have:=(h.km q hq).2;omega,fun s hm p hp=>by have:=((h.si s hm).2 p hp).2.1;omega,fun s hm p hp=>by have:=((h.sr s hm).2 p hp).2.1;omega⟩
theorem GN {V W:World} {T R X D:Nat} {a:Option Addr} {c:Nat} {l:List Int} {cs:List Value} {x0:ai} {ga:Option Addr} {gc:Nat} {xs:List aS}
 (h:iJ V T R X D a c l cs x0 78 12 ga gc (xs.map aS.cells) (xs.map fun x=>(x.aa,x.ac,x.away)) [] W) (hm: ∀x∈xs,x.name.size≤maxLen∧eI [x.cR,x.kq,x.rn,x.rd,x.qD,x.uf,x.sk,x.wI,x.cY,x.jH]):
 CW V T R X a c l cs {x0 with la:=ga,lc:=gc,lines:=xs} W:=by
 obtain ⟨ra,rc,kK,su,Gq⟩:=h.own.recs (by decide);simp only [Value.slice.injEq,true_and]at kK;obtain ⟨rfl,rfl⟩:=kK;have DK:=h.lo;have ho: ∀q,eZ {x0 with la:=ga,lc:=gc,lines:=xs} q→eZ x0 q∨ga=some q:=fun q hq=>by rcases hq with e|e|e|e|e|e<;>first|exact .inl (.inl e)|exact .inr e|exact .inl (.inr (.inr (.inl e)))|exact .inl (.inr (.inr (.inr (.inl e))))|exact .inl (.inr (.inr (.inr (.inr (.inl e)))))|exact .inl (.inr (.inr (.inr (.inr (.inr e)))))
 have hJ:=kj h.cw.sep.off h.old (fun q e=>(h.km q e).1) ho;refine {h.cw with case':={h.cw.case' with lines:=su,line:=fun b hb=> ?_},bl:={h.cw.bl with lines:=fun p hp=> ?_,line:=fun b hb p hp=> ?_},sep:={h.cw.sep with la:=iU.of h.own,off:={hJ with line:=fun b hb p hp=> ?_}}}
 ·exact ⟨(hm b hb).1,(h.si _ (List.mem_map.2 ⟨_,hb,rfl⟩)).1,(hm b hb).2⟩
 ·have:=h.km p hp
  show X<p.block∧p.block<W.heap.size;omega
 ·have h2:=(h.si _ (List.mem_map.2 ⟨_,hb,rfl⟩)).2 p hp
  exact ⟨h2.1,h2.2.1⟩
 ·have h2:=(h.si _ (List.mem_map.2 ⟨_,hb,rfl⟩)).2 p hp
  exact h2.2.2.2.join ho h2.2.2.1
theorem GP {V W:World} {T R X D:Nat} {a:Option Addr} {c:Nat} {l:List Int} {cs:List Value} {x0:ai} {ga:Option Addr} {gc:Nat} {xs:List aK}
 (h:iJ V T R X D a c l cs x0 67 22 ga gc (xs.map aK.cells) (xs.map fun x=>(x.aa,x.ac,x.away)) (xs.map fun x=>(x.sa,x.sc,2,x.aU.map dH.cells)) W) (hu: ∀w,a_ w x0→bH w 22 ga gc (xs.map aK.cells)→(∀x∈xs,aI w x.aa x.ac x.away∧bH w 2 x.sa x.sc (x.aU.map dH.cells))→a_ w {x0 with ua:=ga,uc:=gc,aq:=xs}):
 CW V T R X a c l cs {x0 with ua:=ga,uc:=gc,aq:=xs} W:=by
 obtain ⟨ra,rc,kK,su,Gq⟩:=h.own.recs (by decide);simp only [Value.slice.injEq,true_and]at kK;obtain ⟨rfl,rfl⟩:=kK;have DK:=h.lo;have hs:=fun b (hb:b∈xs)=>h.si _ (List.mem_map.2 ⟨b,hb,rfl⟩);have hr:=fun b (hb:b∈xs)=>h.sr _ (List.mem_map.2 ⟨b,hb,rfl⟩);have ho: ∀q,eZ {x0 with ua:=ga,uc:=gc,aq:=xs} q→eZ x0 q∨ga=some q:=fun q hq=>by rcases hq with e|e|e|e|e|e<;>first|exact .inl (.inl e)|exact .inl (.inr (.inl e))|exact .inr e|exact .inl (.inr (.inr (.inr (.inl e))))|exact .inl (.inr (.inr (.inr (.inr (.inl e)))))|exact .inl (.inr (.inr (.inr (.inr (.inr e)))))
 have hJ:=kj h.cw.sep.off h.old (fun q e=>(h.km q e).1) ho;refine {h.cw with case':=hu W h.cw.case' su (fun x hx=>⟨(hs x hx).1,(hr x hx).1⟩),bl:={h.cw.bl with aq:=fun p hp=> ?_,unit:=fun b hb=>⟨fun p hp=> ?_,fun p hp=> ?_⟩},sep:={h.cw.sep with ua:=iU.of h.own,off:={hJ with unit:=fun b hb=>⟨fun p hp=> ?_,fun p hp=> ?_⟩}}}
 ·have:=h.km p hp
  show X<p.block∧p.block<W.heap.size;omega
 ·have h2:=(hr b hb).2 p hp
  exact ⟨h2.1,h2.2.1⟩
 ·have h2:=(hs b hb).2 p hp
  exact ⟨h2.1,h2.2.1⟩
 ·have h2:=(hr b hb).2 p hp
  exact h2.2.2.2.join ho h2.2.2.1
 ·have h2:=(hs b hb).2 p hp
  exact h2.2.2.2.join ho h2.2.2.1
structure kH (x:cN) (i:Nat) (hours:Nat):Prop where
 name:x.name=aR 98 i
 len:x.cf.length=hours
 cf: ∀z∈x.cf,0≤z∧z<14
 lF:x.lF=0∨(100≤x.lF∧x.lF<300)
structure nA (x:bG) (nb:Nat):Prop where
 name:x.name={data:= #[115,48]}
 cS:0≤x.cS∧x.cS<nb
 capacity:0≤x.capacity∧x.capacity<20
 initial:0≤x.initial∧x.initial≤x.capacity
 final:0≤x.final∧x.final≤x.capacity
 fS:0≤x.fS∧x.fS<8
 discharge:0≤x.discharge∧x.discharge<8
 XQ:1≤x.en∧x.en≤4∧x.ed=4
structure Fh (x:dX) (nb hours:Nat):Prop where
 name:x.name={data:= #[116,48]}
 cS:0≤x.cS∧x.cS<nb
 imp:x.imp.length=hours∧ ∀z∈x.imp,0≤z∧z<12
 exp:x.exp.length=hours∧ ∀z∈x.exp,0≤z∧z<12
 aV:x.aV.length=hours∧ ∀z∈x.aV,0≤z∧z<40
def gK (l:List aS) (nb hh:Nat):Prop:= ∀j (hj:j<l.length),∃fr tb,fr<nb∧tb<nb∧fr≠tb∧p_ l[j] j fr tb hh
def jX (l:List aK) (nb hh:Nat):Prop:= ∀j (hj:j<l.length),∃bu,bu<nb∧sJ l[j] j bu hh
def qf (l:List aY) (nl nu:Nat):Prop:= ∀j (hj:j<l.length),yt l[j] j nl nu
structure fT (hh nb:Nat) (c:ai):Prop where
 hours:c.hours=(hh:Int)
 hr:1≤hh∧hh≤3
 res:c.aA.length=hh∧ ∀z∈c.aA,0≤z∧z<5
 Nk:c.aj.length=nb∧1≤nb∧nb≤4
 cS: ∀j (hj:j<c.aj.length),kH c.aj[j] j hh
 lines:c.lines.length≤7
 line:gK c.lines nb hh
 aq:1≤c.aq.length∧c.aq.length≤3
 unit:jX c.aq nb hh
 stores:c.stores.length≤1
 store: ∀s∈c.stores,nA s nb
 aB:c.aB.length≤1
 tie: ∀t∈c.aB,Fh t nb hh
 outs:c.outs.length≤3
 o:qf c.outs c.lines.length c.aq.length
theorem fT.lens {hh nb:Nat} {c:ai} (h:fT hh nb c):oA c:=by
 have h1:=h.Nk;have h2:=h.lines;have h3:=h.aq;have h4:=h.stores;have h5:=h.aB;have h6:=h.outs
 refine ⟨by omega,by omega,by omega,by omega,by omega,by omega,fun o ho=> ?_⟩;obtain ⟨j,hj,rfl⟩:=List.getElem_of_mem ho;have:=(h.o j hj).moves.len;omega
theorem nB: ∀(l:List dH),(∀g∈l,1≤g.width∧g.width≤15∧ -2≤g.aV∧g.aV≤40)→0≤cE l∧cE l≤15*l.length
 | [],_=>by simp [cE]
 |g::l,h=>by
  have h1:=nB l (fun g hg=>h g (List.mem_cons_of_mem _ hg));have h2:=h g (by simp);have h3:cE (g::l)=g.width+cE l:=by simp [cE]
  rw [h3,List.length_cons];omega
end Go.Proofs.YtkpngkdgphojlaaGreat
