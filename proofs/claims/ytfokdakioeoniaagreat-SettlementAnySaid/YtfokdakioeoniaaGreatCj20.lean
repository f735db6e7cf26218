/- Texts of the proof. -/
import Derived.Laws.Rows
import Derived.Deep.WholeRow
import Derived.Test.YtfokdakioeoniaaGreatCj2
set_option linter.all false
set_option maxRecDepth 100000
namespace Go.Proofs.YtfokdakioeoniaaGreat
open Go.Proofs.Tryz
open Go.RowKit
theorem q8 {V:World} {K:Nat} {c:aq} {s:St} (h:kg V K c s):V.cell? ⟨K,8,none⟩=some (i64 s.kind)/\V.cell? ⟨K,9,none⟩=some (i64 s.idx)/\V.cell? ⟨K,10,none⟩=some (i64 s.field)/\V.cell? ⟨K,11,none⟩=some (i64 s.err)/\V.frozen? ⟨K,8,none⟩=false/\V.frozen? ⟨K,9,none⟩=false/\V.frozen? ⟨K,10,none⟩=false/\V.frozen? ⟨K,11,none⟩=false:=
 ⟨(h.cell 8).trans rfl,(h.cell 9).trans rfl,(h.cell 10).trans rfl,(h.cell 11).trans rfl,h.frozen 8,h.frozen 9,h.frozen 10,h.frozen 11⟩
theorem fJ {V:World} {K:Nat} {c:aq} {s:St} (h:kg V K c s):V.cell? ⟨K,0,none⟩=some (i64 c.hours)/\V.cell? ⟨K,1,none⟩=some (.slice c.ra c.bC.length c.rc)/\V.cell? ⟨K,2,none⟩=some (.slice c.ba c.ar.length c.bc)/\V.cell? ⟨K,3,none⟩=some (.slice c.la c.lines.length c.lc)/\V.cell? ⟨K,4,none⟩=some (.slice c.ua c.ay.length c.uc)/\V.cell? ⟨K,5,none⟩=some (.slice c.sa c.stores.length c.sc)/\V.cell? ⟨K,6,none⟩=some (.slice c.ta c.bF.length c.tc)/\V.cell? ⟨K,7,none⟩=some (.slice c.oa c.outs.length c.oc):=
 ⟨(h.cell 0).trans rfl,(h.cell 1).trans rfl,(h.cell 2).trans rfl,(h.cell 3).trans rfl,(h.cell 4).trans rfl,(h.cell 5).trans rfl,(h.cell 6).trans rfl,(h.cell 7).trans rfl⟩
theorem gj (V:World) (K:Nat) (c:aq) (s:St) (ok:Bool) (field e:Int) (h:kg V K c s):
 Calls prog 165 #[.pointer (some ⟨K,0,none⟩),.bool ok,i64 field,i64 e] V λe' w'=>oU V K c (s.need ok field e) e' w':=by
 obtain ⟨-,-,c10,c11,-,-,f10,f11⟩:=q8 h;have HK:=af h;clear h;by_cases h0:s.err=0
 .have t1:(s.err==0)=true:=by simpa using h0
  cases ok with
  |true=>
   go_enter func165,ntmps165
   go_wp2_with fail
   refine bodyPost_end (v:= .tuple #[]) aw rfl ⟨rfl,?_,aH.refl _ _⟩;unfold St.need;simp;exact HK.o
  |false=>
   have HW:Hid (kg ((V.setCell ⟨K,10,none⟩ (i64 field)).setCell ⟨K,11,none⟩ (i64 e)) K c (s.need false field e)):=by
    show kg _ _ _ _;unfold St.need;rw [if_pos ⟨h0,rfl⟩];exact (HK.o.set 10 _).set 11 _
   go_enter func165,ntmps165
   go_wp2
   exact bodyPost_end (v:= .tuple #[]) aw rfl ⟨rfl,HW.o,(aH.refl _ _).nT.nT⟩
 .have t1:(s.err==0)=false:=by simpa using h0
  have HN:=af (St.jy s ok field e h0);clear h0;go_enter func165,ntmps165
  go_wp2
  exact bodyPost_end (v:= .tuple #[]) aw rfl ⟨rfl,by rw [HN.o];exact HK.o,aH.refl _ _⟩
theorem FL (V:World) (K:Nat) (c:aq) (s:St) (kind idx:Int) (h:kg V K c s):
 Calls prog 162 #[.pointer (some ⟨K,0,none⟩),i64 kind,i64 idx] V λe' w'=>oU V K c (s.at kind idx) e' w':=by
 have c8:=q8 h;have HK:=af h;clear h;by_cases h0:s.err=0
 .have t1:(s.err==0)=true:=by simpa using h0
  have HW:Hid (kg (((V.setCell ⟨K,8,none⟩ (i64 kind)).setCell ⟨K,9,none⟩ (i64 idx)).setCell ⟨K,10,none⟩ (i64 0)) K c (s.at kind idx)):=by
   show kg _ _ _ _;unfold St.at;rw [if_pos h0];have h5:=((HK.o.set 8 (i64 kind)).set 9 (i64 idx)).set 10 (i64 0);have e:((((Dz c s).set 8 (i64 kind)).set 9 (i64 idx)).set 10 (i64 0))=Dz c ⟨kind,idx,0,s.err⟩:=rfl;rw [e,h0]at h5;exact h5
  go_enter func162,ntmps162
  go_wp2
  exact bodyPost_end (v:= .tuple #[]) aw rfl ⟨rfl,HW.o,(aH.refl _ _).nT.nT.nT⟩
 .have t1:(s.err==0)=false:=by simpa using h0
  have HN:Hid (s.at kind idx=s):=by show s.at kind idx=s;unfold St.at;rw [if_neg h0]
  clear h0;go_enter func162,ntmps162
  go_wp2
  exact bodyPost_end (v:= .tuple #[]) aw rfl ⟨rfl,by rw [HN.o];exact HK.o,aH.refl _ _⟩
theorem j3 (V:World) (K:Nat) (c:aq) (s:St) (field n least most:Int) (h:kg V K c s):
 Calls prog 163 #[.pointer (some ⟨K,0,none⟩),i64 field,i64 n,i64 least,i64 most] V λe' w'=>oU V K c (s.within field n least most) e' w':=by
 have HC:=af (λok=>gj V K c s ok field 3 h);unfold St.within;clear h;cases d1:decide (least<=n)with
 |false=>
  simp only [Bool.false_and];go_enter func163,ntmps163
  go_wp2_with fail
  refine (HC.o _).mono ?_;rintro e w' ⟨rfl,h1,h2⟩;go_wp2
  exact bodyPost_end (v:= .tuple #[]) aw rfl ⟨rfl,h1,h2⟩
 |true=>
  simp only [Bool.true_and];go_enter func163,ntmps163
  go_wp2_with fail
  refine (HC.o _).mono ?_;rintro e w' ⟨rfl,h1,h2⟩;go_wp2
  exact bodyPost_end (v:= .tuple #[]) aw rfl ⟨rfl,h1,h2⟩
theorem Kj (V:World) (K:Nat) (c:aq) (s:St) (field i:Int) (h:kg V K c s):
 Calls prog 169 #[.pointer (some ⟨K,0,none⟩),i64 field,i64 i] V λe' w'=>oU V K c (s.fc c field i) e' w':=by
 have HC:=af (λok=>gj V K c s ok field 12 h);obtain ⟨-,-,c2,-⟩:=fJ h;unfold St.fc;clear h;cases d1:decide (0<=i)with
 |false=>
  simp only [Bool.false_and];go_enter func169,ntmps169
  go_wp2_with fail
  refine (HC.o _).mono ?_;rintro e w' ⟨rfl,h1,h2⟩;go_wp2
  exact bodyPost_end (v:= .tuple #[]) aw rfl ⟨rfl,h1,h2⟩
 |true=>
  simp only [Bool.true_and];go_enter func169,ntmps169
  go_wp2_with fail
  refine (HC.o _).mono ?_;rintro e w' ⟨rfl,h1,h2⟩;go_wp2
  exact bodyPost_end (v:= .tuple #[]) aw rfl ⟨rfl,h1,h2⟩
section
variable{P:Program}
theorem jn (w:World) (p:Addr) (ty:TypeId) (cs:List Value) (d:TypeDesc) (hc: ∀j v,cs[j]?=some v->w.cell? (p.add j)=some v)
 (hu:P.underlying ty=some d) (hd:(match d with| .struct _| .array _ _=>true|_=>false)=true) (hi:(P.info? ty).map (·.size)=some cs.length):
 (loadVar ty p).run P w= .ok (.agg cs.toArray) w:=by
 have hl:(loadCells p cs.length).run P w= .ok cs.toArray w:=run_loadCells_list (P:=P) w p cs hc;cases hq:P.info? ty with
 |none=>simp [hq]at hi
 |some i=>
  have hs:i.size=cs.length:=by simpa [hq]using hi
  have hagg:(isAgg ty).run P w= .ok true w:=by
   unfold isAgg;rw [Sem.run_bind,run_underlying hu w];cases d<;>simp_all
  simp [loadVar,Sem.run_bind,hagg,sizeOf,typeInfo,hq,hs,hl]
theorem cT {ops:Array Oper} {rest:List Oper} {o:Oper} {a:Act} {w:World} {Q:Exit->Act->World->Prop} (hgd:o.guard=none) (ty:TypeId) (x:Operand) (ho:o.op= .load ty x)
 (p:Addr) (hx:a.eval x= .pointer (some p)) (cs:List Value) (d:TypeDesc) (hc: ∀j v,cs[j]?=some v->w.cell? (p.add j)=some v)
 (hu:P.underlying ty=some d) (hd:(match d with| .struct _| .array _ _=>true|_=>false)=true) (hi:(P.info? ty).map (·.size)=some cs.length)
 (h:wpList P ops Q rest (a.put o.dst (.agg cs.toArray)) w):wpList P ops Q (o::rest) a w:=
 wpList_plain hgd λK hK=>by
  unfold Oper.wp execOp;simp only [ho,hx,Instr.loadAt,Instr.sureAddr,Sem.run_bind,Sem.run_pure,Result.andThen_ok,jn w p ty cs d hc hu hd hi];exact hK _ _ h
theorem aT {ops:Array Oper} {rest:List Oper} {o:Oper} {a:Act} {w:World} {Q:Exit->Act->World->Prop} (hgd:o.guard=none) (ty:TypeId) (x y:Operand) (ho:o.op= .store ty x y)
 (cs cs':List Value) (hx:a.eval x= .pointer (some ⟨w.heap.size,0,none⟩)) (hy:a.eval y= .agg cs'.toArray) (hi:(P.info? ty).map (·.size)=some cs'.length) (hold:cs.length=cs'.length) (h1:cs'.all (·.oneCell')=true)
 (h:wpList P ops Q rest (a.put o.dst undef) (w.alloc (.cells cs'.toArray ty))):wpList P ops Q (o::rest) a (w.alloc (.cells cs.toArray ty)):=
 wpList_plain hgd λK hK=>by
  have hr:=run_storeAt_new (P:=P) w ty cs.toArray cs'.toArray (by simpa using hi) (by simpa using hold) (by simpa using h1);unfold Oper.wp execOp;simp only [ho,hx,hy,Sem.run_bind,hr,Result.andThen_ok,Sem.run_pure];exact hK _ _ h
end
theorem aY.adds {w:World} {b:Nat} {T:TypeId} {vs:List Value} (h:aY w b T vs): ∀j v,vs[j]?=some v->w.cell? (Addr.add ⟨b,0,none⟩ j)=some v:=λj v hv=>by
 have e:(Addr.add ⟨b,0,none⟩ j)=⟨b,j,none⟩:=by unfold Addr.add;split<;>simp_all
 rw [e,h.cell j];exact hv
theorem di.adds {w:World} {m:Nat} {a:Option Addr} {c:Nat} {rows:List (List Value)} (h:di w m a c rows) (i:Nat) (hi:i<rows.length): ∃b o,a=some ⟨b,o,none⟩/\ ∀j v,(rows[i])[j]?=some v->w.cell? (Addr.add ⟨b,o+i*m,none⟩ j)=some v:=by
 obtain ⟨b,o,ha,hc⟩:=h.cell i hi;refine ⟨b,o,ha,λj v hv=> ?_⟩;obtain ⟨hj,rfl⟩:=List.getElem?_eq_some_iff.1 hv;have e:(Addr.add ⟨b,o+i*m,none⟩ j)=⟨b,o+i*m+j,none⟩:=by unfold Addr.add;split<;>simp_all
 rw [e];exact hc j hj
def Cs (w:World) (b o:Nat):Nat->List Value->Prop
 |_,[]=>True
 |j,v::l=>w.cell? ⟨b,o+j,none⟩=some v/\Cs w b o (j+1) l
theorem Cs.of {w:World} {b o:Nat}: ∀{l:List Value} {j:Nat},(∀i v,l[i]?=some v->w.cell? ⟨b,o+(j+i),none⟩=some v)->Cs w b o j l
 | [],_,_=>trivial
 |v::l,j,h=>⟨h 0 v rfl,Cs.of λi u e=>by have:=h (i+1) u e;rwa [show j+1+i=j+(i+1) by omega]⟩
theorem aY.cs {w:World} {b:Nat} {T:TypeId} {vs:List Value} (h:aY w b T vs):Cs w b 0 0 vs:=
 Cs.of λi v e=>by rw [show 0+(0+i)=i by omega,h.cell];exact e
theorem Bv {P Q:Prop} (h:P) (e:P=Q:=by simp only [Cs,iQ.cells,cX.cells,iI.cells,cw.cells,cI.cells,gY.cells,cH.cells,ee.cells,bE.cells,Nat.add_zero,Nat.zero_add,Nat.reduceAdd,and_true];rfl):Q:=e▸h
theorem di.cs {α:Type} {f:α->List Value} {l:List α} {w:World} {m:Nat} {a:Option Addr} {c:Nat} (h:di w m a c (l.map f)) (i:Nat) (hi:i<l.length): ∃b o,a=some ⟨b,o,none⟩/\Cs w b (o+i*m) 0 (f l[i]):=by
 obtain ⟨b,o,ha,hc⟩:=h.cell i (by simpa using hi);simp only [List.getElem_map]at hc;refine ⟨b,o,ha,Cs.of λj v e=> ?_⟩;obtain ⟨hj,rfl⟩:=List.getElem?_eq_some_iff.1 e;rw [Nat.zero_add];exact hc j hj
theorem di.cs' {α:Type} {f:α->List Value} {l:List α} {w:World} {m b o:Nat} {c:Nat} (h:di w m (some ⟨b,o,none⟩) c (l.map f)) (i:Nat) (hi:i<l.length):Cs w b (o+i*m) 0 (f l[i]):=by
 obtain ⟨b',o',e,q⟩:=h.cs i hi;cases e;exact q
theorem aY.gw {K:Nat} {w w':World} {b:Nat} {T:TypeId} {vs:List Value} (h:aY w b T vs) (e:aH K w w') (hb:b≠K):aY w' b T vs:=by
 unfold aY;rw [e.block b h.lt hb];exact h
theorem aI {w W:World} {T:TypeId} {cs:List Value} (h:w.alloc (.cells cs.toArray T)=W): ∃E,E=w.heap.size/\Ext w W/\aY W E T cs:=by
 subst h;exact ⟨_,rfl,ah.alloc _,aY.alloc _ _ _⟩
theorem aY.FM {w:World} {b:Nat} {x:Int} (h:aY w b 3 [i64 x]) (hx:dx x):bV w (some ⟨b,0,none⟩) 1 [x]:=
 ⟨aX,ae,λi hi=>⟨b,0,rfl,by
   obtain rfl:i=0:=by simpa using hi
   exact (h.cell 0).trans rfl⟩,λi hi=>by
   obtain rfl:i=0:=by simpa using hi
   exact hx⟩
theorem FN {α:Type} (f:α->ByteArray) (l:List α) (i:Nat) (h:i<l.length): ∃prev,prev=(l.take i).map f/\Hid (prev.length=i)/\ ∀j (hj:j<prev.length),∃h:j<l.length,prev[j]=f l[j]:=
 ⟨_,rfl,(show _=_ by simp;omega),λj hj=>⟨by simp at hj;omega,aX⟩⟩
theorem St.zK (s:St) (k i:Int) (h:(s.at k i).err=0):(s.at k i).idx=i:=by
 unfold St.at at h⊢;split
 .rfl
 .rename_i hne;rw [if_neg hne]at h;exact absurd h hne
def St.upTo {α:Type} (f:α->List ByteArray->Int->St->St) (g:α->ByteArray) (l:List α) (s:St) (n:Nat):St:=(List.range n).foldl (λs i=>match l[i]? with|some x=>f x ((l.take i).map g) i s|none=>s) s
theorem St.oV {α:Type} (f:α->List ByteArray->Int->St->St) (g:α->ByteArray) (l:List α) (s:St) (i:Nat) (h:i<l.length):St.upTo f g l s (i+1)=f l[i] ((l.take i).map g) i (St.upTo f g l s i):=by
 unfold St.upTo;rw [List.range_succ,List.foldl_append,List.foldl_cons,List.foldl_nil,List.getElem?_eq_getElem h]
open Go
theorem Q_ {α:Type} (l:List α) (i:Nat) (h:i<l.length):l.toArray[i]'h=l[i]'h:=rfl
theorem Ra {α:Type} (a:α) (l:List α) (i:Nat) (h:i+1<(a::l).length):(a::l)[i+1]=l[i]'(Nat.lt_of_succ_lt_succ h):=rfl
theorem Rb {α:Type} (a:α) (l:List α) (h:0<(a::l).length):(a::l)[0]=a:=rfl
theorem zM {α:Type} (x:α) (l:List α) (a:α):(x::l).set 0 a=a::l:=rfl
theorem rsE {α:Type} (x:α) (l:List α) (i:Nat) (a:α):(x::l).set (i+1) a=x::l.set i a:=rfl
theorem zO {α:Type} (l:List α) (i:Nat) (a:α):l.toArray.setIfInBounds i a=(l.set i a).toArray:=List.setIfInBounds_toArray ..
def DA (g c:Bool) (v:Value):Value:=if c=g then v else undef
theorem Ci (b:Bool) (v:Value):DA b b v=v:=if_pos rfl
theorem FO:(∀(b:Bool) (v:Value),DA b b v=v)/\(∀(q:Prop) [Decidable q] (c p:Bool),(q↔c=true)->(if q then Value.bool true else DA false c (.bool p))= .bool (c||p))/\
 (∀(q:Prop) [Decidable q] (c p:Bool),(q↔c=true)->(if q then DA true c (.bool p)else Value.bool false)= .bool (c&&p)):=
 ⟨Ci,λq _ c p h=>by cases c<;>by_cases e:q<;>simp_all [DA],λq _ c p h=>by cases c<;>by_cases e:q<;>simp_all [DA]⟩
theorem Cj {ops:Array Oper} {tmps:Array Value} {o:Oper} {j d:Nat} {g c:Bool} (hgd:o.guard=some (j,g)) (hj:(ops[j]?).bind (·.dst)=some d) (hc:tmps[d]?=some (.bool c)):Region.wanted o (yielded ops tmps)=(c==g):=by
 unfold Region.wanted yielded;rw [hgd];simp only [hj,Option.bind_some,hc];cases c<;>cases g<;>rfl
section
variable{P:Program} {ops:Array Oper} {Q:Exit->Act->World->Prop} {S:World->Prop} {n:Nat} {ls uo:Array Bool} {a a':Act} {w:World}
abbrev wpS (P:Program) (ops:Array Oper) (Q:Exit->Act->World->Prop) (S:World->Prop):=ij P .any ops Q S (λ_=>True) (λ_=>false)
theorem wG {id:Nat} (S:World->Prop) (hS:S w.drew) (h:S w.drew->wpS P ops Q S ops.size ls a w.drew) (hm:P.follows .mixedOrders=true:=by kernel_rfl)
 (hl:Array.replicate ops.size false=ls:=by simp only [List.size_toArray,List.length_cons,List.length_nil,Nat.reduceAdd,Array.replicate_succ,Array.replicate_zero,List.push_toArray,List.append_toArray,List.nil_append,List.cons_append];rfl):(Code.region id ops true).wp P Q a w:=
 eo S (λ_=>True) (λ_=>false) hm hS trivial λh1 _=>hl▸h h1
theorem wV (i:Nat) {v:Value} {o:Oper} (hS:S w) (h:wpS P ops Q S n uo a' w) (hi:ops[i]?=some o:=by rfl) (hy: ∀w,S w->(execOp a.eval o).run P w= .ok (.value v) w:=by intro w e;go_simp;try rfl)
 (hl:ls.setIfInBounds i true=uo:=by simp only [zO,zM,rsE];rfl) (ha:a.put o.dst v=a':=by simp only [Q_,Ra,Rb,zO,zM,rsE,Act.put];rfl)
 (h1:Region.noSelect ops=true:=by kernel_rfl) (h2:Region.free .any ops ls i=true:=by kernel_rfl)
 (h3:(Region.ready .any ops ls).contains i=true:=by kernel_rfl) (h5: ∀c a w,Q (.panic c) (a.put o.dst v) w->Q (.panic c) a w:=by exact λ_ _ _ h=>h)
 (h6:Region.wanted o (yielded ops a.tmps)=true:=by rfl):wpS P ops Q S (n+1) ls a w:=by
 subst hl ha;exact iJ hi h1 h2 h3 rfl h5 (Or.inl ⟨h6,hy⟩) hS (Or.inl trivial) h
theorem wN (i:Nat) {o:Oper} (hS:S w) (h:wpS P ops Q S n uo a' w) (hi:ops[i]?=some o:=by rfl)
 (hl:ls.setIfInBounds i true=uo:=by simp only [zO,zM,rsE];rfl) (ha:a.put o.dst undef=a':=by simp only [Q_,Ra,Rb,zO,zM,rsE,Act.put];rfl)
 (h1:Region.noSelect ops=true:=by kernel_rfl) (h2:Region.free .any ops ls i=true:=by kernel_rfl)
 (h3:(Region.ready .any ops ls).contains i=true:=by kernel_rfl) (h5: ∀c a w,Q (.panic c) (a.put o.dst undef) w->Q (.panic c) a w:=by exact λ_ _ _ h=>h)
 (h6:Region.wanted o (yielded ops a.tmps)=false:=by rfl):wpS P ops Q S (n+1) ls a w:=by
 subst hl ha;exact iJ hi h1 h2 h3 rfl h5 (Or.inr ⟨h6,rfl⟩) hS (Or.inl trivial) h
theorem wB (i:Nat) {j d:Nat} {g c:Bool} {v:Value} {o:Oper} (hS:S w) (h:wpS P ops Q S n uo a' w) (hi:ops[i]?=some o:=by rfl) (hgd:o.guard=some (j,g):=by rfl) (hj:(ops[j]?).bind (·.dst)=some d:=by rfl) (hc:a.tmps[d]?=some (.bool c):=by rfl)
 (hy:c=g-> ∀w,S w->(execOp a.eval o).run P w= .ok (.value v) w:=by intro hb w e;go_simp;try rfl)
 (hl:ls.setIfInBounds i true=uo:=by simp only [zO,zM,rsE];rfl) (ha:a.put o.dst (if c=g then v else undef)=a':=by simp only [Q_,Ra,Rb,zO,zM,rsE,Act.put];rfl)
 (h1:Region.noSelect ops=true:=by kernel_rfl) (h2:Region.free .any ops ls i=true:=by kernel_rfl)
 (h3:(Region.ready .any ops ls).contains i=true:=by kernel_rfl) (h5: ∀c v a w,Q (.panic c) (a.put o.dst v) w->Q (.panic c) a w:=by exact λ_ _ _ _ h=>h):wpS P ops Q S (n+1) ls a w:=by
 subst hl ha;have hw:=Cj (o:=o) hgd hj hc;by_cases hb:c=g
 .rw [if_pos hb]at h;exact iJ hi h1 h2 h3 rfl (λc=>h5 c v) (Or.inl ⟨by rw [hw];simpa using hb,hy hb⟩) hS (Or.inl trivial) h
 .rw [if_neg hb]at h;exact iJ hi h1 h2 h3 rfl (λc=>h5 c undef) (Or.inr ⟨by rw [hw];simpa using hb,rfl⟩) hS (Or.inl trivial) h
theorem wP (i:Nat) {b p q:Bool} {x y z:Operand} {o:Oper} (hS:S w) (h:wpS P ops Q S n uo a' w) (hi:ops[i]?=some o:=by rfl) (ho:o.op= .pick x y z:=by rfl) (hx:a.eval x= .bool b:=by rfl)
 (hy:b=true-> ∀w,S w->(execOp a.eval o).run P w= .ok (.value (.bool p)) w:=by intro hb w e;go_simp;try rfl) (hn:b=false-> ∀w,S w->(execOp a.eval o).run P w= .ok (.value (.bool q)) w:=by intro hb w e;go_simp;try rfl)
 (hl:ls.setIfInBounds i true=uo:=by simp only [zO,zM,rsE];rfl) (ha:a.put o.dst (.bool (bif b then p else q))=a':=by simp only [Q_,Ra,Rb,zO,zM,rsE,Act.put,cond_true,cond_false,Bool.cond_false_right,Bool.cond_true_left];rfl)
 (h1:Region.noSelect ops=true:=by kernel_rfl) (h2:Region.free .any ops ls i=true:=by kernel_rfl)
 (h3:(Region.ready .any ops ls).contains i=true:=by kernel_rfl) (h5: ∀c v a w,Q (.panic c) (a.put o.dst v) w->Q (.panic c) a w:=by exact λ_ _ _ _ h=>h)
 (h6:Region.wanted o (yielded ops a.tmps)=true:=by rfl):wpS P ops Q S (n+1) ls a w:=by
 subst hl ha;refine iJ hi h1 h2 h3 rfl (λc=>h5 c _) (Or.inl ⟨h6,λw hS=> ?_⟩) hS (Or.inl trivial) h;cases hb:b with
 |true=>exact hy hb w hS
 |false=>exact hn hb w hS
theorem wR (i:Nat) {o:Oper}
 (h: ∀K':Act->World->Prop,Shut (∀a w,S w->(S w->wpS P ops Q S n uo a w)->K' a w)->if Region.wanted o (yielded ops a.tmps)=true then Oper.wp P o a w K' Q else K' (a.put o.dst undef) w)
 (ho:ops[i]?=some o:=by rfl) (hl:ls.setIfInBounds i true=uo:=by simp only [zO,zM,rsE];rfl) (hr:Region.ready .any ops ls= [i]:=by kernel_rfl):wpS P ops Q S (n+1) ls a w:=by
 subst hl;exact iO hr aX (cZ.cons ho (λK' hK=>h K' (af λa w hS hW=>hK.o a w hS trivial λhS _=>hW hS)) cZ.nil)
theorem wD (h:Q .normal a w) (hr:Region.ready .any ops ls= []:=by kernel_rfl):wpS P ops Q S n ls a w:=eh hr h _
end
section
variable{P:Program} {ops:Array Oper} {Q:Exit->Act->World->Prop} {S:World->Prop} {z n:Nat} {ls uo:Array Bool} {a a':Act} {w:World}
abbrev S7 (P:Program) (ops:Array Oper) (Q:Exit->Act->World->Prop) (S:World->Prop) (z:Nat):=ij P .any ops Q (λ_=>True) S (λj=>j==z)
theorem zG {id:Nat} (z:Nat) (S:World->Prop) (hS:S w.drew) (h:S w.drew->S7 P ops Q S z ops.size ls a w.drew) (hm:P.follows .mixedOrders=true:=by kernel_rfl)
 (hl:Array.replicate ops.size false=ls:=by simp only [List.size_toArray,List.length_cons,List.length_nil,Nat.reduceAdd,Array.replicate_succ,Array.replicate_zero,List.push_toArray,List.append_toArray,List.nil_append,List.cons_append];rfl):(Code.region id ops true).wp P Q a w:=
 eo (λ_=>True) S _ hm trivial hS λ_ h1=>hl▸h h1
theorem zV (i:Nat) {v:Value} {o:Oper} (hS:S w) (h:S7 P ops Q S z n uo a' w) (hi:ops[i]?=some o:=by rfl) (hy: ∀w,S w->(execOp a.eval o).run P w= .ok (.value v) w:=by intro w e;go_simp;try rfl)
 (hl:ls.setIfInBounds i true=uo:=by simp only [zO,zM,rsE];rfl) (ha:a.put o.dst v=a':=by simp only [Q_,Ra,Rb,zO,zM,rsE,Act.put];rfl)
 (h1:Region.noSelect ops=true:=by kernel_rfl) (h2:Region.free .any ops ls i=true:=by kernel_rfl)
 (h3:(Region.ready .any ops ls).contains i=true:=by kernel_rfl) (h4:(i==z)=false:=by kernel_rfl) (h7:Ib .any ops (λj=>j==z) i=true:=by kernel_rfl) (h8:wW (λj=>j==z) ls=false:=by kernel_rfl)
 (h5: ∀c a w,Q (.panic c) (a.put o.dst v) w->Q (.panic c) a w:=by exact λ_ _ _ h=>h) (h6:Region.wanted o (yielded ops a.tmps)=true:=by rfl):S7 P ops Q S z (n+1) ls a w:=by
 subst hl ha;exact CU hi h1 h2 h3 h4 h7 h8 h5 (Or.inl ⟨h6,λw e=>hy w e.2⟩) trivial hS h
theorem zR (i:Nat) {o:Oper}
 (h: ∀K':Act->World->Prop,Shut (∀a w,S w->(S w->S7 P ops Q S z n uo a w)->K' a w)->if Region.wanted o (yielded ops a.tmps)=true then Oper.wp P o a w K' Q else K' (a.put o.dst undef) w)
 (ho:ops[i]?=some o:=by rfl) (hl:ls.setIfInBounds i true=uo:=by simp only [zO,zM,rsE];rfl) (hr:Region.ready .any ops ls= [i]:=by kernel_rfl):S7 P ops Q S z (n+1) ls a w:=by
 subst hl;exact iO hr aX (cZ.cons ho (λK' hK=>h K' (af λa w hS hW=>hK.o a w trivial hS λ_ hR=>hW hR)) cZ.nil)
theorem zL (i:Nat) {o:Oper} (h: ∀K':Act->World->Prop,Shut (∀a w,Q .normal a w->K' a w)->if Region.wanted o (yielded ops a.tmps)=true then Oper.wp P o a w K' Q else K' (a.put o.dst undef) w)
 (ho:ops[i]?=some o:=by rfl) (hr:Region.ready .any ops ls= [i]:=by kernel_rfl) (hz:wW (λj=>j==z) (ls.setIfInBounds i true)=true:=by kernel_rfl) (hd:Region.ready .any ops (ls.setIfInBounds i true)= []:=by kernel_rfl):S7 P ops Q S z (n+1) ls a w:=
 iO hr aX (cZ.late ho hz (λK' hK=>h K' (af λa w hq=>hK.o a w trivial λ_=>eh hd hq _)) cZ.nil)
end
section
variable{P:Program} {ops:Array Oper} {Q:Exit->Act->World->Prop} {rest:List Oper} {o:Oper} {a a':Act} {w:World}
theorem XT {j d:Nat} {g c:Bool} {v:Value} (h:wpList P ops Q rest a' w) (hgd:o.guard=some (j,g):=by rfl) (hj:(ops[j]?).bind (·.dst)=some d:=by rfl) (hc:a.tmps[d]?=some (.bool c):=by rfl)
 (hy:c=g->(execOp a.eval o).run P w= .ok (.value v) w:=by intro hb;have hs:=Ci;go_simp;try rfl) (ha:a.put o.dst (DA g c v)=a':=by simp only [Q_,Ra,Rb,zO,zM,rsE,Act.put];rfl):wpList P ops Q (o::rest) a w:=by
 subst ha;have hw:=Cj (o:=o) hgd hj hc;refine wpList_step λK hK=> ?_;rw [hw];by_cases hb:c=g
 .rw [if_pos (by simpa using hb)]
  rw [DA,if_pos hb]at h;unfold Oper.wp;rw [hy hb,Oper.upon_value];exact hK _ _ h
 .rw [if_neg (by simpa using hb)]
  rw [DA,if_neg hb]at h;exact hK _ _ h
end
def St.found (s:St) (ok:Bool) (kind idx field e:Int):St:=if s.err=0/\ok=false then⟨kind,idx,field,e⟩else s
theorem St.LY (s:St) (ok:Bool) (k i f e:Int) (h:s.err≠0):s.found ok k i f e=s:=by unfold St.found;rw [if_neg (λh'=>h h'.1)]
abbrev S8 (w:World) (K:Nat) (s:St):Prop:=aY w K 163 s.cells
def abV (V:World) (K:Nat) (s:St) (e:Ending) (w':World):Prop:=e= .returned (.tuple #[])/\S8 w' K s/\aH K V w'
theorem Kk {V:World} {K:Nat} {s:St} (h:S8 V K s):V.cell? ⟨K,0,none⟩=some (i64 s.kind)/\V.cell? ⟨K,1,none⟩=some (i64 s.idx)/\V.cell? ⟨K,2,none⟩=some (i64 s.field)/\V.cell? ⟨K,3,none⟩=some (i64 s.err)/\V.frozen? ⟨K,0,none⟩=false/\V.frozen? ⟨K,1,none⟩=false/\V.frozen? ⟨K,2,none⟩=false/\V.frozen? ⟨K,3,none⟩=false:=
 ⟨(h.cell 0).trans rfl,(h.cell 1).trans rfl,(h.cell 2).trans rfl,(h.cell 3).trans rfl,h.frozen 0,h.frozen 1,h.frozen 2,h.frozen 3⟩
theorem UR (V:World) (K:Nat) (s:St) (ok:Bool) (kind idx field e:Int) (h:S8 V K s):
 Calls prog 116 #[.pointer (some ⟨K,0,none⟩),.bool ok,i64 kind,i64 idx,i64 field,i64 e] V λe' w'=>abV V K (s.found ok kind idx field e) e' w':=by
 obtain ⟨c0,c1,c2,c3,f0,f1,f2,f3⟩:=Kk h;have HK:=af h;clear h;by_cases h0:s.err=0
 .have t1:(s.err==0)=true:=by simpa using h0
  cases ok with
  |true=>
   go_enter func116,ntmps116
   go_wp2_with fail
   refine bodyPost_end (v:= .tuple #[]) aw rfl ⟨rfl,?_,aH.refl _ _⟩;unfold St.found;simp;exact HK.o
  |false=>
   have HW:Hid (S8 ((((V.setCell ⟨K,0,none⟩ (i64 kind)).setCell ⟨K,1,none⟩ (i64 idx)).setCell ⟨K,2,none⟩ (i64 field)).setCell ⟨K,3,none⟩ (i64 e)) K (s.found false kind idx field e)):=by
    show S8 _ _ _;unfold St.found;rw [if_pos ⟨h0,rfl⟩];exact (((HK.o.set 0 _).set 1 _).set 2 _).set 3 _
   go_enter func116,ntmps116
   go_wp2
   exact bodyPost_end (v:= .tuple #[]) aw rfl ⟨rfl,HW.o,(aH.refl _ _).nT.nT.nT.nT⟩
 .have t1:(s.err==0)=false:=by simpa using h0
  have HN:=af (St.LY s ok kind idx field e h0);clear h0;go_enter func116,ntmps116
  go_wp2
  exact bodyPost_end (v:= .tuple #[]) aw rfl ⟨rfl,by rw [HN.o];exact HK.o,aH.refl _ _⟩
def cJ (low high:Int) (l:List Int):Bool:=l.all λx=>decide (low<=x)&&decide (x<=high)
theorem LZ {low high:Int} {l:List Int} (h: ∀j,j<l.length->low<=kE l j/\kE l j<=high):cJ low high l=true:=by
 unfold cJ;rw [List.all_eq_true];intro x hx;obtain ⟨i,hi,rfl⟩:=List.getElem_of_mem hx;have:=h i hi;rw [gh hi]at this;simp [this.1,this.2]
theorem IP {low high:Int} {l:List Int} {j:Nat} (hj:j<l.length) (h: ¬(low<=kE l j/\kE l j<=high)):cJ low high l=false:=by
 unfold cJ;rw [List.all_eq_false];refine ⟨l[j],List.getElem_mem hj,?_⟩;rw [gh hj]at h;simpa using h
theorem dH (w:World) (low high:Int) (a:Option Addr) (c:Nat) (l:List Int) (h:bV w a c l):
 Calls prog 117 #[i64 low,i64 high,.slice a l.length c] w λe w'=>e= .returned (.bool (cJ low high l))/\w'=w:=by
 have hle:=h.le;have eI:=h.cap
 have HL:=af h;clear h;go_enter func117,ntmps117
 go_wp2
 go_loopw [7] (λii wr=> ∃i:Nat,i<=l.length/\wr=w/\(∀j,j<i->low<=kE l j/\kE l j<=high)/\ii= .int .i64 i) (λii _=>l.length-(intOf ii).toNat)
 case atStart=>exact ⟨0,bm,rfl,λj hj=>absurd hj (Nat.not_lt_zero _),rfl⟩
 case round=>
  obtain ⟨i,hi,hw,hA,rfl⟩:=hrel;subst hw;by_cases hlt:i<l.length
  .obtain ⟨b,o,rfl,c0⟩:=HL.o.cell i hlt
   rw [<-gh hlt]at c0;have HA:=af hA;obtain ⟨x,hx⟩: ∃x,x=kE l i:=⟨_,rfl⟩;rw [<-hx]at c0;have HX:=af hx;have mn:(0:Int)<=(i:Int):=ae;have mq:(i:Int)<(l.length:Int):=ae;have jc: ¬(low<=x/\x<=high)->cJ low high l=false:=λhn=>IP hlt (by rw [<-HX.o];exact hn)
   have zP:low<=x/\x<=high-> ∀j,j<i+1->low<=kE l j/\kE l j<=high:=λhg j hj=>by
    by_cases qF:j=i
    .subst qF;rw [<-HX.o];exact hg
    .exact HA.o j ae
   clear hA hx;cases q1:decide (x<low)with
   |true=>
    have HB:=af (jc (by simp at q1;omega));clear jc zP;go_wp2
    go_ret;exact ⟨by rw [HB.o];rfl,rfl⟩
   |false=>
    cases q2:decide (high<x)with
    |true=>
     have HB:=af (jc (by simp at q2;omega));clear jc zP;go_wp2
     go_ret;exact ⟨by rw [HB.o];rfl,rfl⟩
    |false=>
     have HG:=af (zP (by simp at q1 q2;omega));clear jc zP;go_wp2
     exact ⟨⟨i+1,ae,by first|trivial|rfl,HG.o,bq⟩,bz⟩
  .have HF:=af (LZ (low:=low) (high:=high) (l:=l) (λj hj=>hA j ae))
   clear hA;go_wp2
   go_ret;exact ⟨by rw [HF.o];rfl,rfl⟩
def lr (l:List Int):Bool:=(List.range l.length).all λj=>j==0||decide (kE l (j-1)<kE l j)
theorem uU (l:List Int):lr l=true↔ ∀j,1<=j->j<l.length->kE l (j-1)<kE l j:=by
 unfold lr;rw [List.all_eq_true];constructor
 .intro h j h1 h2
  have:=h j (List.mem_range.2 h2);simp only [Bool.or_eq_true,beq_iff_eq,decide_eq_true_eq]at this;rcases this with h|h
  .omega
  .exact h
 .intro h j hj
  simp only [Bool.or_eq_true,beq_iff_eq,decide_eq_true_eq];by_cases h0:j=0
  .exact Or.inl h0
  .exact Or.inr (h j ae (List.mem_range.1 hj))
def jX (n d:Int):Bool:=decide (1<=d)&&decide (d<=1048576)&&decide (-1048576<=n)&&decide (n<=1048576)
def St.away (s:St) (c:aq) (field:Int) (l:List Int):St:=(s.each l field 0 (IntKind.i64.wrap (c.hours-1))).need (lr l) field 11
theorem St.Ck (s:St) (l:List Int) (f a b:Int) (i:Nat) (h:i<l.length):s.each (l.take (i+1)) f a b=(s.each (l.take i) f a b).within f l[i] a b:=by
 unfold St.each;rw [List.take_succ_eq_append_getElem h,List.foldl_append];rfl
theorem St.Cl (s:St) (l:List Int) (f a b:Int) (i:Nat) (h:(s.each (l.take i) f a b).err≠0):s.each (l.take i) f a b=s.each l f a b:=by
 have h1:s.each l f a b=(s.each (l.take i) f a b).each (l.drop i) f a b:=by
  unfold St.each;rw [<-List.foldl_append,List.take_append_drop]
 rw [h1,St.Ov _ _ _ _ _ h]
theorem FP (w:World) (n d:Int):
 Calls prog 170 #[.agg #[i64 n,i64 d]] w λe w'=>e= .returned (.bool (jX n d))/\Ext w w':=by
 unfold jX;cases d1:decide (1<=d)with
 |false=>
  go_enter func170,ntmps170
  go_wp2
  go_ret;exact ⟨aX,ah.alloc _⟩
 |true=>
  cases d2:decide (d<=1048576)with
  |false=>
   go_enter func170,ntmps170
   go_wp2
   go_ret;exact ⟨aX,ah.alloc _⟩
  |true=>
   cases d3:decide (-1048576<=n)with
   |false=>
    go_enter func170,ntmps170
    go_wp2
    go_ret;exact ⟨aX,ah.alloc _⟩
   |true=>
    go_enter func170,ntmps170
    go_wp2
    go_ret;exact ⟨aX,ah.alloc _⟩
theorem pR (w:World) (a:Option Addr) (c:Nat) (l:List Int) (h:bV w a c l):
 Calls prog 177 #[.slice a l.length c] w λe w'=>e= .returned (.bool (lr l))/\Ext w w':=by
 have hle:=h.le;have eI:=h.cap
 have HL:=af h;clear h;go_enter func177,ntmps177
 go_wp2
 go_loopw [3] (λii wr=> ∃i:Nat,1<=i/\(i<=l.length\/i=1)/\Ext w wr/\(∀j,1<=j->j<i->kE l (j-1)<kE l j)/\ii= .int .i64 i) (λii _=>l.length-(intOf ii).toNat)
 case atStart=>exact ⟨1,cG,Or.inr rfl,ah,λj h1 h2=>ae,rfl⟩
 case round=>
  obtain ⟨i,h1,hi,hE,hA,rfl⟩:=hrel;by_cases hlt:i<l.length
  .obtain ⟨b,o,rfl,c0⟩:=(HL.o.ext hE).cell i hlt
   obtain ⟨b',o',e',c1⟩:=(HL.o.ext hE).cell (i-1) ae;cases e'
   obtain ⟨p,rfl⟩: ∃p,i=p+1:=⟨i-1,ae⟩;simp only [Nat.add_sub_cancel]at c1;have e0:kE l (p+1)=l[p+1]:=gh ae;have e1:kE l p=l[p]:=gh ae;rw [<-e0]at c0;rw [<-e1]at c1
   have hw:IntKind.i64.wrap (((p+1:Nat):Int)-1)=(p:Int):=nY;have HA:=af hA;have HE:=af hE
   obtain ⟨x,hx⟩: ∃x,x=kE l (p+1):=⟨_,rfl⟩;obtain ⟨y,hy⟩: ∃y,y=kE l p:=⟨_,rfl⟩;rw [<-hx]at c0;rw [<-hy]at c1
   have HX:=af hx;have HY:=af hy
   have mn:(0:Int)<=((p+1:Nat):Int):=ae;have mq:((p+1:Nat):Int)<(l.length:Int):=ae;have UT:(0:Int)<=(p:Int):=ae;have UU:(p:Int)<(l.length:Int):=ae;have Wn:(0:Int)<=(p:Int)+1:=ae;have Wo:(p:Int)+1<(l.length:Int):=ae;have bk2: ¬((p:Int)+1<0):=ae;have hw2:IntKind.i64.wrap (p:Int)=(p:Int):=nY;have k0:wr.drew.cell? ⟨b,o+(p+1),none⟩=some (.int .i64 x):=c0;have k1:wr.drew.cell? ⟨b,o+p,none⟩=some (.int .i64 y):=c1;clear hA hE hx hy e0 e1 c0 c1;go_wp2_with fail
   refine eo (λw'=>w'.cell? ⟨b,o+(p+1),none⟩=some (.int .i64 x)/\w'.cell? ⟨b,o+p,none⟩=some (.int .i64 y)) (λw'=>True) (λi=>false) aw (⟨k0,k1⟩) (trivial) (λdA aL=> ?_);refine eG 0 dA aL ?_;refine eG 1 dA aL ?_ (v:= .int .i64 ((p+1:Nat):Int));refine eG 2 dA aL ?_;refine eG 3 dA aL ?_ (v:= .int .i64 x);refine eG 4 dA aL ?_;refine eG 5 dA aL ?_ (v:= .int .i64 ((p+1:Nat):Int));refine eG 6 dA aL ?_ (v:= .int .i64 (p:Int));refine eG 7 dA aL ?_;refine eG 8 dA aL ?_ (v:= .int .i64 y);refine eG 9 dA aL ?_ (v:= .bool (decide (x<=y)));refine eh aw ?_ _;clear dA aL;by_cases qH:x<=y
   .have t:decide (x<=y)=true:=by simpa using qH
    have hf:lr l=false:=by
     cases hq:lr l with
     |false=>rfl
     |true=>
      have:=(uU l).1 hq (p+1) ae hlt;simp only [Nat.add_sub_cancel]at this;rw [<-HX.o,<-HY.o]at this;omega
    go_wp2
    go_ret;exact ⟨by rw [hf];rfl,HE.o.drew⟩
   .have t:decide (x<=y)=false:=by simpa using qH
    have hn: ∀j,1<=j->j<p+1+1->kE l (j-1)<kE l j:=by
     intro j a1 a2;by_cases hj:j=p+1
     .subst hj
      simp only [Nat.add_sub_cancel];rw [<-HX.o,<-HY.o];omega
     .exact HA.o j a1 ae
    have HN:=af hn;clear hn k0 k1;go_wp2
    exact ⟨⟨p+1+1,ae,Or.inl ae,HE.o.drew,HN.o,bq⟩,bz⟩
  .have ht:lr l=true:=(uU l).2 (λj a1 a2=>hA j a1 ae)
   clear hA;go_wp2
   go_ret;exact ⟨by rw [ht];rfl,hE⟩
theorem zQ (w0 V:World) (K:Nat) (c:aq) (s:St) (field least most:Int) (a:Option Addr) (cc:Nat) (l:List Int) (hK:w0.heap.size<=K) (hV:Ext w0 V) (hl:bV w0 a cc l) (h:kg V K c s):
 Calls prog 164 #[.pointer (some ⟨K,0,none⟩),i64 field,.slice a l.length cc,i64 least,i64 most] V λe' w'=>oU V K c (s.pQ c field l least most) e' w':=by
 have hle:=hl.le;have eI:=hl.cap
 have HL:=af hl;have HV:=af hV
 have hq:((l.length:Int)==c.hours)=decide ((l.length:Int)=c.hours):=by rw [Bool.eq_iff_iff];simp
 have hC:=gj V K c s (decide ((l.length:Int)=c.hours)) field 4 h;obtain ⟨c0,-⟩:=fJ h;unfold St.pQ;obtain ⟨s1,hs1⟩: ∃s1,s.need (decide ((l.length:Int)=c.hours)) field 4=s1:=⟨_,rfl⟩;rw [hs1]at hC⊢;have HC:=af hC;clear h hl hV hs1 hC;go_enter func164,ntmps164
 go_wp2_with fail
 first
  |refine HC.o.mono ?_
  |(rw [hq];refine HC.o.mono ?_)
 rintro e w1 ⟨rfl,UW,hx1⟩;have H1:=af UW;have X1:=af hx1
 clear UW hx1 c0 HC hq;go_wp2
 go_loopw [25] (λii wr=> ∃i:Nat,i<=l.length/\kg wr K c (s1.each (l.take i) field least most)/\aH K V wr/\ii= .int .i64 i) (λii _=>l.length-(intOf ii).toNat)
 case atStart=>exact ⟨0,bm,H1.o,X1.o,rfl⟩
 case round=>
  obtain ⟨i,hi,hk,hx,rfl⟩:=hrel;clear H1 X1;by_cases hlt:i<l.length
  .have hE:=hx.ext HV.o hK
   obtain ⟨b,o,rfl,cl⟩:=(HL.o.ext hE).cell i hlt;obtain ⟨-,-,-,c11,-⟩:=q8 hk;have HN:=af (St.Ck s1 l field least most i hlt);have hst:=St.Cl s1 l field least most i;generalize s1.each (l.take i) field least most=s2 at*;have HX:=af hx;have HW:=af (j3 wr K c s2 field l[i] least most hk);have zS:=af hk;have mn:(0:Int)<=(i:Int):=ae;have mq:(i:Int)<(l.length:Int):=ae;clear hx hE hk;by_cases h0:s2.err=0
   .have t1:(s2.err !=0)=false:=by simpa using h0
    clear hst h0;go_wp2_with fail
    refine HW.o.mono ?_;rintro e w2 ⟨rfl,hk2,hx2⟩;go_wp2
    exact ⟨⟨i+1,ae,by rw [HN.o];exact hk2,HX.o.trans hx2,bq⟩,bz⟩
   .have t1:(s2.err !=0)=true:=by simpa using h0
    have HST:=af (hst h0);clear hst h0;go_wp2
    exact bodyPost_ret (v:= .tuple #[]) aw rfl ⟨rfl,by rw [<-HST.o];exact zS.o,HX.o⟩
  .obtain rfl:i=l.length:=ae
   rw [List.take_length]at hk;go_wp2
   exact bodyPost_end (v:= .tuple #[]) aw rfl ⟨rfl,hk,hx⟩
theorem Ow (w0 V:World) (K:Nat) (c:aq) (s:St) (field:Int) (a:Option Addr) (cc:Nat) (l:List Int) (hK:w0.heap.size<=K) (hV:Ext w0 V) (hl:bV w0 a cc l) (h:kg V K c s):
 Calls prog 171 #[.pointer (some ⟨K,0,none⟩),i64 field,.slice a l.length cc] V λe' w'=>oU V K c (s.away c field l) e' w':=by
 have hle:=hl.le;have eI:=hl.cap
 have HL:=af hl;have HV:=af hV
 unfold St.away;have HH:=af h;obtain ⟨H1,hH1⟩: ∃H1,IntKind.i64.wrap (c.hours-1)=H1:=⟨_,rfl⟩;rw [hH1];clear h hl hV;go_enter func171,ntmps171
 go_wp2
 go_loopw [10] (λii wr=> ∃i:Nat,i<=l.length/\kg wr K c (s.each (l.take i) field 0 H1)/\aH K V wr/\ii= .int .i64 i) (λii _=>l.length-(intOf ii).toNat)
 case atStart=>exact ⟨0,bm,HH.o,aH.refl _ _,rfl⟩
 case round=>
  obtain ⟨i,hi,hk,hx,rfl⟩:=hrel;clear HH;by_cases hlt:i<l.length
  .have hE:=hx.ext HV.o hK
   obtain ⟨b,o,rfl,cl⟩:=(HL.o.ext hE).cell i hlt;obtain ⟨-,-,-,c11,-⟩:=q8 hk;obtain ⟨c0,-⟩:=fJ hk;have HN:=af (St.Ck s l field 0 H1 i hlt);have hst:=St.Cl s l field 0 H1 i;generalize s.each (l.take i) field 0 H1=s2 at*;have HX:=af hx;have HW:=af (j3 wr K c s2 field l[i] 0 H1 hk);have zS:=af hk;have mn:(0:Int)<=(i:Int):=ae;have mq:(i:Int)<(l.length:Int):=ae;clear hx hE hk;by_cases h0:s2.err=0
   .have t1:(s2.err !=0)=false:=by simpa using h0
    clear hst h0;go_wp2_with fail
    refine HW.o.mono ?_;rintro e w2 ⟨rfl,hk2,hx2⟩;go_wp2
    exact ⟨⟨i+1,ae,by rw [HN.o];exact hk2,HX.o.trans hx2,bq⟩,bz⟩
   .have t1:(s2.err !=0)=true:=by simpa using h0
    have hse:=hst h0;have kd:(s.each l field 0 H1).need (lr l) field 11=s2:=by rw [<-hse];exact St.jy _ _ _ _ h0
    have HST:=af kd;clear hst h0 hse kd;go_wp2
    exact bodyPost_ret (v:= .tuple #[]) aw rfl ⟨rfl,by rw [HST.o];exact zS.o,HX.o⟩
  .obtain rfl:i=l.length:=ae
   rw [List.take_length]at hk;have hE:=hx.ext HV.o hK;have HA:=af (pR wr a cc l (HL.o.ext hE));have HX:=af hx;have zS:=af hk
   have ahv:=hk.lt;clear hk hx hE;go_wp2_with fail
   refine HA.o.mono ?_;rintro e w2 ⟨rfl,x2⟩;have HC:=af (gj w2 K c (s.each l field 0 H1) (lr l) field 11 (zS.o.ext x2));go_wp2_with fail
   refine HC.o.mono ?_;rintro e w3 ⟨rfl,hk3,hx3⟩;go_wp2
   exact bodyPost_end (v:= .tuple #[]) aw rfl ⟨rfl,hk3,HX.o.trans ((x2.but K).trans hx3)⟩
theorem nz (w:World) (a:Option Addr) (c:Nat) (l:List Int) (h:bV w a c l):
 Calls prog 210 #[.slice a l.length c] w λe w'=>e= .returned (.bool (lr l))/\Ext w w':=by
 have hle:=h.le;have eI:=h.cap
 have HL:=af h;clear h;go_enter func210,ntmps210
 go_wp2
 go_loopw [3] (λii wr=> ∃i:Nat,1<=i/\(i<=l.length\/i=1)/\Ext w wr/\(∀j,1<=j->j<i->kE l (j-1)<kE l j)/\ii= .int .i64 i) (λii _=>l.length-(intOf ii).toNat)
 case atStart=>exact ⟨1,cG,Or.inr rfl,ah,λj h1 h2=>ae,rfl⟩
 case round=>
  obtain ⟨i,h1,hi,hE,hA,rfl⟩:=hrel;by_cases hlt:i<l.length
  .obtain ⟨b,o,rfl,c0⟩:=(HL.o.ext hE).cell i hlt
   obtain ⟨b',o',e',c1⟩:=(HL.o.ext hE).cell (i-1) ae;cases e'
   obtain ⟨p,rfl⟩: ∃p,i=p+1:=⟨i-1,ae⟩;simp only [Nat.add_sub_cancel]at c1;have e0:kE l (p+1)=l[p+1]:=gh ae;have e1:kE l p=l[p]:=gh ae;rw [<-e0]at c0;rw [<-e1]at c1
   have hw:IntKind.i64.wrap (((p+1:Nat):Int)-1)=(p:Int):=nY;have HA:=af hA;have HE:=af hE
   obtain ⟨x,hx⟩: ∃x,x=kE l (p+1):=⟨_,rfl⟩;obtain ⟨y,hy⟩: ∃y,y=kE l p:=⟨_,rfl⟩;rw [<-hx]at c0;rw [<-hy]at c1
   have HX:=af hx;have HY:=af hy
   have mn:(0:Int)<=((p+1:Nat):Int):=ae;have mq:((p+1:Nat):Int)<(l.length:Int):=ae;have UT:(0:Int)<=(p:Int):=ae;have UU:(p:Int)<(l.length:Int):=ae;have Wn:(0:Int)<=(p:Int)+1:=ae;have Wo:(p:Int)+1<(l.length:Int):=ae;have bk2: ¬((p:Int)+1<0):=ae;have hw2:IntKind.i64.wrap (p:Int)=(p:Int):=nY;have k0:wr.drew.cell? ⟨b,o+(p+1),none⟩=some (.int .i64 x):=c0;have k1:wr.drew.cell? ⟨b,o+p,none⟩=some (.int .i64 y):=c1;clear hA hE hx hy e0 e1 c0 c1;go_wp2_with fail
   refine eo (λw'=>w'.cell? ⟨b,o+(p+1),none⟩=some (.int .i64 x)/\w'.cell? ⟨b,o+p,none⟩=some (.int .i64 y)) (λw'=>True) (λi=>false) aw (⟨k0,k1⟩) (trivial) (λdA aL=> ?_);refine eG 0 dA aL ?_;refine eG 1 dA aL ?_ (v:= .int .i64 ((p+1:Nat):Int));refine eG 2 dA aL ?_;refine eG 3 dA aL ?_ (v:= .int .i64 x);refine eG 4 dA aL ?_;refine eG 5 dA aL ?_ (v:= .int .i64 ((p+1:Nat):Int));refine eG 6 dA aL ?_ (v:= .int .i64 (p:Int));refine eG 7 dA aL ?_;refine eG 8 dA aL ?_ (v:= .int .i64 y);refine eG 9 dA aL ?_ (v:= .bool (decide (x<=y)));refine eh aw ?_ _;clear dA aL;by_cases qH:x<=y
   .have t:decide (x<=y)=true:=by simpa using qH
    have hf:lr l=false:=by
     cases hq:lr l with
     |false=>rfl
     |true=>
      have:=(uU l).1 hq (p+1) ae hlt;simp only [Nat.add_sub_cancel]at this;rw [<-HX.o,<-HY.o]at this;omega
    go_wp2
    go_ret;exact ⟨by rw [hf];rfl,HE.o.drew⟩
   .have t:decide (x<=y)=false:=by simpa using qH
    have hn: ∀j,1<=j->j<p+1+1->kE l (j-1)<kE l j:=by
     intro j a1 a2;by_cases hj:j=p+1
     .subst hj
      simp only [Nat.add_sub_cancel];rw [<-HX.o,<-HY.o];omega
     .exact HA.o j a1 ae
    have HN:=af hn;clear hn k0 k1;go_wp2
    exact ⟨⟨p+1+1,ae,Or.inl ae,HE.o.drew,HN.o,bq⟩,bz⟩
  .have ht:lr l=true:=(uU l).2 (λj a1 a2=>hA j a1 ae)
   clear hA;go_wp2
   go_ret;exact ⟨by rw [ht];rfl,hE⟩
def hasB (l:List Int) (v:Int):Bool:=l.any λx=>x==v
theorem q9 (l:List Int) (v:Int):hasB l v=true↔ ∃i,i<l.length/\kE l i=v:=by
 unfold hasB;rw [List.any_eq_true];constructor
 .rintro ⟨x,hx,e⟩
  obtain ⟨i,hi,rfl⟩:=List.getElem_of_mem hx;exact ⟨i,hi,by rw [gh hi];simpa using e⟩
 .rintro ⟨i,hi,e⟩
  exact ⟨l[i],List.getElem_mem hi,by rw [gh hi]at e;simpa using e⟩
theorem Cm (l:List Int) (v:Int) (h: ∀j,j<l.length->kE l j≠v):hasB l v=false:=by
 cases hq:hasB l v with
 |false=>rfl
 |true=>
  obtain ⟨i,hi,e⟩:=(q9 l v).1 hq;exact absurd e (h i hi)
theorem Ox (w:World) (a:Option Addr) (c:Nat) (l:List Int) (v:Int) (h:bV w a c l):
 Calls prog 283 #[.slice a l.length c,i64 v] w λe w'=> ∃r:Int,e= .returned (i64 r)/\decide (0<=r)=hasB l v/\w'=w:=by
 have hle:=h.le;have eI:=h.cap
 have HL:=af h;clear h;go_enter func283,ntmps283
 go_wp2
 go_loopw [8] (λii wr=> ∃i:Nat,i<=l.length/\wr=w/\(∀j,j<i->kE l j≠v)/\ii= .int .i64 i) (λii _=>l.length-(intOf ii).toNat)
 case atStart=>exact ⟨0,bm,rfl,λj hj=>absurd hj (Nat.not_lt_zero _),rfl⟩
 case round=>
  obtain ⟨i,hi,hw,hA,rfl⟩:=hrel;subst hw;by_cases hlt:i<l.length
  .obtain ⟨b,o,rfl,c0⟩:=HL.o.cell i hlt
   rw [<-gh hlt]at c0;have HA:=af hA;obtain ⟨x,hx⟩: ∃x,x=kE l i:=⟨_,rfl⟩;rw [<-hx]at c0;have HX:=af hx;have mn:(0:Int)<=(i:Int):=ae;have mq:(i:Int)<(l.length:Int):=ae;clear hA hx;by_cases uf:x=v
   .have t:(v==x)=true:=by rw [uf];simp
    have hh:decide ((0:Int)<=(i:Int))=hasB l v:=by
     rw [(q9 l v).2 ⟨i,hlt,by rw [<-HX.o];exact uf⟩];simp
    have HH:=af hh;clear hh uf;go_wp2
    go_ret;exact ⟨_,rfl,HH.o,rfl⟩
   .have t:(v==x)=false:=by simpa using λe=>uf e.symm
    have hn: ∀j,j<i+1->kE l j≠v:=λj hj=>by
     by_cases qF:j=i
     .subst qF;rw [<-HX.o];exact uf
     .exact HA.o j ae
    have HN:=af hn;clear hn uf;go_wp2
    exact ⟨⟨i+1,ae,by first|trivial|rfl,HN.o,bq⟩,bz⟩
  .have hf:=Cm l v (λj hj=>hA j ae)
   have HF:=af hf;clear hA hf;go_wp2
   go_ret;exact ⟨_,rfl,by rw [HF.o];rfl,rfl⟩
theorem oq (w:World) (a:Option Addr) (c:Nat) (l:List Int) (v:Int) (h:bV w a c l):
 Calls prog 243 #[.slice a l.length c,i64 v] w λe w'=>e= .returned (.bool (hasB l v))/\w'=w:=by
 have HI:=af (Ox w a c l v h);clear h;go_enter func243,ntmps243
 go_wp2_with fail
 refine HI.o.mono ?_;rintro e w1 ⟨r,rfl,hr,rfl⟩;go_wp2
 go_ret;exact ⟨by rw [<-hr];rfl,rfl⟩
theorem My {P:Program} {o:Oper} {a:Act} {w:World} {F:Nat} {xs:Array Operand} {ts:Array TypeId} (ho:o.op= .call {callee:= .value (.func F),args:=xs,argTypes:=ts}) (hen: ∀args w,(callFunc F args).run P w= .ok (.enter F args) w):(execOp a.eval o).run P w= .ok (.enter F (xs.map a.eval)) w:=by
 have he:a.eval (.func F)= .func (.func F) #[] #[]:=rfl;generalize a.eval=ev at he⊢;unfold execOp;simp only [ho];go_simp
theorem wE {P:Program} {o:Oper} {a:Act} {w:World} {K':Act->World->Prop} {Q:Exit->Act->World->Prop} {F:Nat} {xs:Array Operand} {ts:Array TypeId} {vals:Array Value} (hen: ∀args w,(callFunc F args).run P w= .ok (.enter F args) w) (hc:Calls P F vals w λe w'=> ∃v,e= .returned v/\K' (a.put o.dst v) w')
 (ho:o.op= .call {callee:= .value (.func F),args:=xs,argTypes:=ts}:=by rfl) (hv:xs.map a.eval=vals:=by rfl):Oper.wp P o a w K' Q:=by
 subst hv;unfold Oper.wp;rw [My ho hen,Oper.upon_enter];refine hc.mono ?_;rintro e w' ⟨v,rfl,h⟩;exact h
