/- Texts of the proof. -/
import Derived.Laws.Rows
import Derived.Deep.WholeRow
import Derived.Test.YtkpngkdgphojlaaGreatCf2
set_option linter.all false
namespace Go.Proofs.YtkpngkdgphojlaaGreat
open Go.Proofs.Tryz
open Go.RowKit
section
variable{P:Program}
theorem lN (w:World) (p:Addr) (ty:TypeId) (cs:List Value) (d:TypeDesc) (hc: ∀j v,cs[j]?=some v→w.cell? (p.add j)=some v)
 (hu:P.underlying ty=some d) (hd:(match d with| .struct _| .array _ _=>true|_=>false)=true) (hi:(P.info? ty).map (·.size)=some cs.length):
 (loadVar ty p).run P w= .ok (.agg cs.toArray) w:=by
 have hl:(loadCells p cs.length).run P w= .ok cs.toArray w:=run_loadCells_list (P:=P) w p cs hc;cases hq:P.info? ty with
 |none=>simp [hq]at hi
 |some i=>
  have hs:i.size=cs.length:=by simpa [hq]using hi
  have hagg:(isAgg ty).run P w= .ok true w:=by
   unfold isAgg;rw [Sem.run_bind,run_underlying hu w];cases d<;>simp_all
  simp [loadVar,Sem.run_bind,hagg,sizeOf,typeInfo,hq,hs,hl]
theorem aT {ops:Array Oper} {rest:List Oper} {o:Oper} {a:Act} {w:World} {Q:Exit→Act→World→Prop} (hgd:o.guard=none) (ty:TypeId) (x:Operand) (ho:o.op= .load ty x)
 (p:Addr) (hx:a.eval x= .pointer (some p)) (cs:List Value) (d:TypeDesc) (hc: ∀j v,cs[j]?=some v→w.cell? (p.add j)=some v)
 (hu:P.underlying ty=some d) (hd:(match d with| .struct _| .array _ _=>true|_=>false)=true) (hi:(P.info? ty).map (·.size)=some cs.length)
 (h:wpList P ops Q rest (a.put o.dst (.agg cs.toArray)) w):wpList P ops Q (o::rest) a w:=
 wpList_plain hgd fun K hK=>by
  unfold Oper.wp execOp;simp only [ho,hx,Instr.loadAt,Instr.sureAddr,Sem.run_bind,Sem.run_pure,Result.andThen_ok,lN w p ty cs d hc hu hd hi];exact hK _ _ h
theorem dR {ops:Array Oper} {rest:List Oper} {o:Oper} {a:Act} {w:World} {Q:Exit→Act→World→Prop} (hgd:o.guard=none) (ty:TypeId) (x y:Operand) (ho:o.op= .store ty x y)
 (cs cs':List Value) (hx:a.eval x= .pointer (some ⟨w.heap.size,0,none⟩)) (hy:a.eval y= .agg cs'.toArray) (hi:(P.info? ty).map (·.size)=some cs'.length) (hold:cs.length=cs'.length) (h1:cs'.all (·.oneCell')=true)
 (h:wpList P ops Q rest (a.put o.dst undef) (w.alloc (.cells cs'.toArray ty))):wpList P ops Q (o::rest) a (w.alloc (.cells cs.toArray ty)):=
 wpList_plain hgd fun K hK=>by
  have hr:=run_storeAt_new (P:=P) w ty cs.toArray cs'.toArray (by simpa using hi) (by simpa using hold) (by simpa using h1);unfold Oper.wp execOp;simp only [ho,hx,hy,Sem.run_bind,hr,Result.andThen_ok,Sem.run_pure];exact hK _ _ h
end
theorem aQ.adds {w:World} {b:Nat} {T:TypeId} {vs:List Value} (h:aQ w b T vs): ∀j v,vs[j]?=some v→w.cell? (Addr.add ⟨b,0,none⟩ j)=some v:=fun j v hv=>by
 have e:(Addr.add ⟨b,0,none⟩ j)=⟨b,j,none⟩:=by unfold Addr.add;split<;>simp_all
 rw [e,h.cell j];exact hv
theorem bH.adds {w:World} {m:Nat} {a:Option Addr} {c:Nat} {rows:List (List Value)} (h:bH w m a c rows) (i:Nat) (hi:i<rows.length): ∃b o,a=some ⟨b,o,none⟩∧ ∀j v,(rows[i])[j]?=some v→w.cell? (Addr.add ⟨b,o+i*m,none⟩ j)=some v:=by
 obtain ⟨b,o,ha,hc⟩:=h.cell i hi;refine ⟨b,o,ha,fun j v hv=> ?_⟩;obtain ⟨hj,rfl⟩:=List.getElem?_eq_some_iff.1 hv;have e:(Addr.add ⟨b,o+i*m,none⟩ j)=⟨b,o+i*m+j,none⟩:=by unfold Addr.add;split<;>simp_all
 rw [e];exact hc j hj
def Cs (w:World) (b o:Nat):Nat→List Value→Prop
 |_,[]=>True
 |j,v::l=>w.cell? ⟨b,o+j,none⟩=some v∧Cs w b o (j+1) l
theorem Cs.of {w:World} {b o:Nat}: ∀{l:List Value} {j:Nat},(∀i v,l[i]?=some v→w.cell? ⟨b,o+(j+i),none⟩=some v)→Cs w b o j l
 | [],_,_=>trivial
 |v::l,j,h=>⟨h 0 v rfl,Cs.of fun i u e=>by have:=h (i+1) u e;rwa [show j+1+i=j+(i+1) by omega]⟩
theorem aQ.cs {w:World} {b:Nat} {T:TypeId} {vs:List Value} (h:aQ w b T vs):Cs w b 0 0 vs:=
 Cs.of fun i v e=>by rw [show 0+(0+i)=i by omega,h.cell];exact e
theorem bH.cs {α:Type} {f:α→List Value} {l:List α} {w:World} {m:Nat} {a:Option Addr} {c:Nat} (h:bH w m a c (l.map f)) (i:Nat) (hi:i<l.length): ∃b o,a=some ⟨b,o,none⟩∧Cs w b (o+i*m) 0 (f l[i]):=by
 obtain ⟨b,o,ha,hc⟩:=h.cell i (by simpa using hi);simp only [List.getElem_map]at hc;refine ⟨b,o,ha,Cs.of fun j v e=> ?_⟩;obtain ⟨hj,rfl⟩:=List.getElem?_eq_some_iff.1 e;rw [Nat.zero_add];exact hc j hj
theorem bH.cs' {α:Type} {f:α→List Value} {l:List α} {w:World} {m b o:Nat} {c:Nat} (h:bH w m (some ⟨b,o,none⟩) c (l.map f)) (i:Nat) (hi:i<l.length):Cs w b (o+i*m) 0 (f l[i]):=by
 obtain ⟨b',o',e,q⟩:=h.cs i hi;cases e;exact q
theorem aQ.dC {K:Nat} {w w':World} {b:Nat} {T:TypeId} {vs:List Value} (h:aQ w b T vs) (e:ar K w w') (hb:b≠K):aQ w' b T vs:=by
 unfold aQ;rw [e.block b h.lt hb];exact h
theorem bX {w W:World} {T:TypeId} {cs:List Value} (h:w.alloc (.cells cs.toArray T)=W): ∃E,E=w.heap.size∧Ext w W∧aQ W E T cs:=by
 subst h;exact ⟨_,rfl,(Ext.refl _).alloc _,aQ.alloc _ _ _⟩
theorem aQ.Lb {w:World} {b:Nat} {x:Int} (h:aQ w b 3 [i64 x]) (hx:bB x):aI w (some ⟨b,0,none⟩) 1 [x]:=
 ⟨by simp,by omega,fun i hi=>⟨b,0,rfl,by
   obtain rfl:i=0:=by simpa using hi
   exact (h.cell 0).trans rfl⟩,fun i hi=>by
   obtain rfl:i=0:=by simpa using hi
   exact hx⟩
theorem A5 {α:Type} (f:α→ByteArray) (l:List α) (i:Nat) (h:i<l.length): ∃prev,prev=(l.take i).map f∧Hid (prev.length=i)∧ ∀j (hj:j<prev.length),∃h:j<l.length,prev[j]=f l[j]:=
 ⟨_,rfl,(show _=_ by simp;omega),fun j hj=>⟨by simp at hj;omega,by simp⟩⟩
theorem St.vq (s:St) (k i:Int) (h:(s.at k i).err=0):(s.at k i).idx=i:=by
 unfold St.at at h⊢;split
 ·rfl
 ·rename_i hne;rw [if_neg hne]at h;exact absurd h hne
def St.upTo {α:Type} (f:α→List ByteArray→Int→St→St) (g:α→ByteArray) (l:List α) (s:St) (n:Nat):St:=(List.range n).foldl (fun s i=>match l[i]? with|some x=>f x ((l.take i).map g) i s|none=>s) s
theorem St.mB {α:Type} (f:α→List ByteArray→Int→St→St) (g:α→ByteArray) (l:List α) (s:St) (i:Nat) (h:i<l.length):St.upTo f g l s (i+1)=f l[i] ((l.take i).map g) i (St.upTo f g l s i):=by
 unfold St.upTo;rw [List.range_succ,List.foldl_append,List.foldl_cons,List.foldl_nil,List.getElem?_eq_getElem h]
open Go
def ze (g c:Bool) (v:Value):Value:=if c=g then v else undef
theorem yc (b:Bool) (v:Value):ze b b v=v:=if_pos rfl
theorem A7:(∀(b:Bool) (v:Value),ze b b v=v)∧(∀(q:Prop) [Decidable q] (c p:Bool),(q↔c=true)→(if q then Value.bool true else ze false c (.bool p))= .bool (c||p))∧
 (∀(q:Prop) [Decidable q] (c p:Bool),(q↔c=true)→(if q then ze true c (.bool p)else Value.bool false)= .bool (c&&p)):=
 ⟨yc,fun q _ c p h=>by cases c<;>by_cases e:q<;>simp_all [ze],fun q _ c p h=>by cases c<;>by_cases e:q<;>simp_all [ze]⟩
theorem ye {ops:Array Oper} {tmps:Array Value} {o:Oper} {j d:Nat} {g c:Bool} (hgd:o.guard=some (j,g)) (hj:(ops[j]?).bind (·.dst)=some d) (hc:tmps[d]?=some (.bool c)):Region.wanted o (yielded ops tmps)=(c==g):=by
 unfold Region.wanted yielded;rw [hgd];simp only [hj,Option.bind_some,hc];cases c<;>cases g<;>rfl
section
variable{P:Program} {ops:Array Oper} {Q:Exit→Act→World→Prop} {S:World→Prop} {n:Nat} {ls oX:Array Bool} {a a':Act} {w:World}
abbrev wpS (P:Program) (ops:Array Oper) (Q:Exit→Act→World→Prop) (S:World→Prop):=eu P .any ops Q S (fun _=>True) (fun _=>false)
theorem wG {id:Nat} (S:World→Prop) (hS:S w.drew) (h:S w.drew→wpS P ops Q S ops.size ls a w.drew) (hm:P.follows .mixedOrders=true:=by kernel_rfl)
 (hl:Array.replicate ops.size false=ls:=by simp only [List.size_toArray,List.length_cons,List.length_nil,Nat.reduceAdd,Array.replicate_succ,Array.replicate_zero,List.push_toArray,List.append_toArray,List.nil_append,List.cons_append];rfl):(Code.region id ops true).wp P Q a w:=
 aL S (fun _=>True) (fun _=>false) hm hS trivial fun h1 _=>hl▸h h1
theorem wV (i:Nat) {v:Value} {o:Oper} (hS:S w) (h:wpS P ops Q S n oX a' w) (hi:ops[i]?=some o:=by rfl) (hy: ∀w,S w→(execOp a.eval o).run P w= .ok (.value v) w:=by intro w e;go_simp;try rfl)
 (hl:ls.setIfInBounds i true=oX:=by simp only [sS];rfl) (ha:a.put o.dst v=a':=by simp only [sS,Act.put];rfl)
 (h1:Region.noSelect ops=true:=by kernel_rfl) (h2:Region.free .any ops ls i=true:=by kernel_rfl)
 (h3:(Region.ready .any ops ls).contains i=true:=by kernel_rfl) (h5: ∀c a w,Q (.panic c) (a.put o.dst v) w→Q (.panic c) a w:=by exact fun _ _ _ h=>h)
 (h6:Region.wanted o (yielded ops a.tmps)=true:=by rfl):wpS P ops Q S (n+1) ls a w:=by
 subst hl ha;exact eV hi h1 h2 h3 rfl h5 (Or.inl ⟨h6,hy⟩) hS (Or.inl trivial) h
theorem wB (i:Nat) {j d:Nat} {g c:Bool} {v:Value} {o:Oper} (hS:S w) (h:wpS P ops Q S n oX a' w) (hi:ops[i]?=some o:=by rfl) (hgd:o.guard=some (j,g):=by rfl) (hj:(ops[j]?).bind (·.dst)=some d:=by rfl) (hc:a.tmps[d]?=some (.bool c):=by rfl)
 (hy:c=g→ ∀w,S w→(execOp a.eval o).run P w= .ok (.value v) w:=by intro hb w e;go_simp;try rfl)
 (hl:ls.setIfInBounds i true=oX:=by simp only [sS];rfl) (ha:a.put o.dst (if c=g then v else undef)=a':=by simp only [sS,Act.put];rfl)
 (h1:Region.noSelect ops=true:=by kernel_rfl) (h2:Region.free .any ops ls i=true:=by kernel_rfl)
 (h3:(Region.ready .any ops ls).contains i=true:=by kernel_rfl) (h5: ∀c v a w,Q (.panic c) (a.put o.dst v) w→Q (.panic c) a w:=by exact fun _ _ _ _ h=>h):wpS P ops Q S (n+1) ls a w:=by
 subst hl ha;have hw:=ye (o:=o) hgd hj hc;by_cases hb:c=g
 ·rw [if_pos hb]at h;exact eV hi h1 h2 h3 rfl (fun c=>h5 c v) (Or.inl ⟨by rw [hw];simpa using hb,hy hb⟩) hS (Or.inl trivial) h
 ·rw [if_neg hb]at h;exact eV hi h1 h2 h3 rfl (fun c=>h5 c undef) (Or.inr ⟨by rw [hw];simpa using hb,rfl⟩) hS (Or.inl trivial) h
theorem wP (i:Nat) {b p q:Bool} {x y z:Operand} {o:Oper} (hS:S w) (h:wpS P ops Q S n oX a' w) (hi:ops[i]?=some o:=by rfl) (ho:o.op= .pick x y z:=by rfl) (hx:a.eval x= .bool b:=by rfl)
 (hy:b=true→ ∀w,S w→(execOp a.eval o).run P w= .ok (.value (.bool p)) w:=by intro hb w e;go_simp;try rfl) (hn:b=false→ ∀w,S w→(execOp a.eval o).run P w= .ok (.value (.bool q)) w:=by intro hb w e;go_simp;try rfl)
 (hl:ls.setIfInBounds i true=oX:=by simp only [sS];rfl) (ha:a.put o.dst (.bool (bif b then p else q))=a':=by simp only [sS,Act.put,cond_true,cond_false,Bool.cond_false_right,Bool.cond_true_left];rfl)
 (h1:Region.noSelect ops=true:=by kernel_rfl) (h2:Region.free .any ops ls i=true:=by kernel_rfl)
 (h3:(Region.ready .any ops ls).contains i=true:=by kernel_rfl) (h5: ∀c v a w,Q (.panic c) (a.put o.dst v) w→Q (.panic c) a w:=by exact fun _ _ _ _ h=>h)
 (h6:Region.wanted o (yielded ops a.tmps)=true:=by rfl):wpS P ops Q S (n+1) ls a w:=by
 subst hl ha;refine eV hi h1 h2 h3 rfl (fun c=>h5 c _) (Or.inl ⟨h6,fun w hS=> ?_⟩) hS (Or.inl trivial) h;cases hb:b with
 |true=>exact hy hb w hS
 |false=>exact hn hb w hS
theorem wR (i:Nat) {o:Oper}
 (h: ∀K':Act→World→Prop,Shut (∀a w,S w→(S w→wpS P ops Q S n oX a w)→K' a w)→if Region.wanted o (yielded ops a.tmps)=true then Oper.wp P o a w K' Q else K' (a.put o.dst undef) w)
 (ho:ops[i]?=some o:=by rfl) (hl:ls.setIfInBounds i true=oX:=by simp only [sS];rfl) (hr:Region.ready .any ops ls= [i]:=by kernel_rfl):wpS P ops Q S (n+1) ls a w:=by
 subst hl;exact bE hr (by simp) (aH.cons ho (fun K' hK=>h K' (ae fun a w hS hW=>hK.o a w hS trivial fun hS _=>hW hS)) aH.nil)
theorem wD (h:Q .normal a w) (hr:Region.ready .any ops ls= []:=by kernel_rfl):wpS P ops Q S n ls a w:=aD hr h _
end
section
variable{P:Program} {ops:Array Oper} {Q:Exit→Act→World→Prop} {S:World→Prop} {z n:Nat} {ls oX:Array Bool} {a a':Act} {w:World}
abbrev P9 (P:Program) (ops:Array Oper) (Q:Exit→Act→World→Prop) (S:World→Prop) (z:Nat):=eu P .any ops Q (fun _=>True) S (fun j=>j==z)
theorem zG {id:Nat} (z:Nat) (S:World→Prop) (hS:S w.drew) (h:S w.drew→P9 P ops Q S z ops.size ls a w.drew) (hm:P.follows .mixedOrders=true:=by kernel_rfl)
 (hl:Array.replicate ops.size false=ls:=by simp only [List.size_toArray,List.length_cons,List.length_nil,Nat.reduceAdd,Array.replicate_succ,Array.replicate_zero,List.push_toArray,List.append_toArray,List.nil_append,List.cons_append];rfl):(Code.region id ops true).wp P Q a w:=
 aL (fun _=>True) S _ hm trivial hS fun _ h1=>hl▸h h1
theorem zL (i:Nat) {o:Oper} (h: ∀K':Act→World→Prop,Shut (∀a w,Q .normal a w→K' a w)→if Region.wanted o (yielded ops a.tmps)=true then Oper.wp P o a w K' Q else K' (a.put o.dst undef) w)
 (ho:ops[i]?=some o:=by rfl) (hr:Region.ready .any ops ls= [i]:=by kernel_rfl) (hz:og (fun j=>j==z) (ls.setIfInBounds i true)=true:=by kernel_rfl) (hd:Region.ready .any ops (ls.setIfInBounds i true)= []:=by kernel_rfl):P9 P ops Q S z (n+1) ls a w:=
 bE hr (by simp) (aH.late ho hz (fun K' hK=>h K' (ae fun a w hq=>hK.o a w trivial fun _=>aD hd hq _)) aH.nil)
end
section
variable{P:Program} {ops:Array Oper} {Q:Exit→Act→World→Prop} {rest:List Oper} {o:Oper} {a a':Act} {w:World}
theorem Q_ {j d:Nat} {g c:Bool} {v:Value} (h:wpList P ops Q rest a' w) (hgd:o.guard=some (j,g):=by rfl) (hj:(ops[j]?).bind (·.dst)=some d:=by rfl) (hc:a.tmps[d]?=some (.bool c):=by rfl)
 (hy:c=g→(execOp a.eval o).run P w= .ok (.value v) w:=by intro hb;have hs:=yc;go_simp;try rfl) (ha:a.put o.dst (ze g c v)=a':=by simp only [sS,Act.put];rfl):wpList P ops Q (o::rest) a w:=by
 subst ha;have hw:=ye (o:=o) hgd hj hc;refine wpList_step fun K hK=> ?_;rw [hw];by_cases hb:c=g
 ·rw [if_pos (by simpa using hb)]
  rw [ze,if_pos hb]at h;unfold Oper.wp;rw [hy hb,Oper.upon_value];exact hK _ _ h
 ·rw [if_neg (by simpa using hb)]
  rw [ze,if_neg hb]at h;exact hK _ _ h
end
end Go.Proofs.YtkpngkdgphojlaaGreat
