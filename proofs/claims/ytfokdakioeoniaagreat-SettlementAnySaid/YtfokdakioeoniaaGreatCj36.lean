/- Texts of the proof. -/
import Derived.Laws.Tables
import Derived.Test.YtfokdakioeoniaaGreatCj20
set_option linter.all false
namespace Go.Proofs.YtfokdakioeoniaaGreat
open Go.Proofs.Tryz
open Go
section
variable{P:Program} {ops:Array Oper} {Q:Exit->Act->World->Prop} {S:World->Prop} {n:Nat} {ls li lj:Array Bool} {a:Act} {w:World}
theorem Mz (i j:Nat) {oi oj:Oper} (hi: ∀K':Act->World->Prop,Shut (∀a w,S w->(S w->wpS P ops Q S n li a w)->K' a w)->if Region.wanted oi (yielded ops a.tmps)=true then Oper.wp P oi a w K' Q else K' (a.put oi.dst undef) w)
 (hj: ∀K':Act->World->Prop,Shut (∀a w,S w->(S w->wpS P ops Q S n lj a w)->K' a w)->if Region.wanted oj (yielded ops a.tmps)=true then Oper.wp P oj a w K' Q else K' (a.put oj.dst undef) w)
 (ei:ops[i]?=some oi:=by rfl) (ej:ops[j]?=some oj:=by rfl) (Te:ls.setIfInBounds i true=li:=by simp only [zO,zM,rsE];rfl) (hlj:ls.setIfInBounds j true=lj:=by simp only [zO,zM,rsE];rfl) (hr:Region.ready .any ops ls= [i,j]:=by kernel_rfl):wpS P ops Q S (n+1) ls a w:=by
 subst Te hlj;exact iO hr aX (cZ.cons ei (λK' hK=>hi K' (af λa w hS hW=>hK.o a w hS trivial λhS _=>hW hS)) (cZ.cons ej (λK' hK=>hj K' (af λa w hS hW=>hK.o a w hS trivial λhS _=>hW hS)) cZ.nil))
end
section
variable{P:Program} {ops:Array Oper} {Q:Exit->Act->World->Prop} {S R:World->Prop} {z n:Nat} {ls uo:Array Bool} {a a':Act} {w:World}
abbrev Qt (P:Program) (ops:Array Oper) (Q:Exit->Act->World->Prop) (S R:World->Prop) (z:Nat):=ij P .any ops Q S R (λj=>j==z)
theorem mG {id:Nat} (z:Nat) (S R:World->Prop) (hS:S w.drew) (hR:R w.drew) (h:S w.drew->R w.drew->Qt P ops Q S R z ops.size ls a w.drew) (hm:P.follows .mixedOrders=true:=by kernel_rfl)
 (hl:Array.replicate ops.size false=ls:=by simp only [List.size_toArray,List.length_cons,List.length_nil,Nat.reduceAdd,Array.replicate_succ,Array.replicate_zero,List.push_toArray,List.append_toArray,List.nil_append,List.cons_append];rfl):(Code.region id ops true).wp P Q a w:=
 eo S R _ hm hS hR λh0 h1=>hl▸h h0 h1
theorem mV (i:Nat) {v:Value} {o:Oper} (hS:S w) (hR:R w) (h:Qt P ops Q S R z n uo a' w) (hi:ops[i]?=some o:=by rfl) (hy: ∀w,S w->(execOp a.eval o).run P w= .ok (.value v) w:=by intro w e;go_simp;try rfl)
 (hl:ls.setIfInBounds i true=uo:=by simp only [zO,zM,rsE];rfl) (ha:a.put o.dst v=a':=by simp only [Q_,Ra,Rb,zO,zM,rsE,Act.put];rfl)
 (h1:Region.noSelect ops=true:=by kernel_rfl) (h2:Region.free .any ops ls i=true:=by kernel_rfl)
 (h3:(Region.ready .any ops ls).contains i=true:=by kernel_rfl) (h4:(i==z)=false:=by kernel_rfl)
 (h5: ∀c a w,Q (.panic c) (a.put o.dst v) w->Q (.panic c) a w:=by exact λ_ _ _ h=>h) (h6:Region.wanted o (yielded ops a.tmps)=true:=by rfl):Qt P ops Q S R z (n+1) ls a w:=by
 subst hl ha;exact iJ hi h1 h2 h3 h4 h5 (Or.inl ⟨h6,hy⟩) hS (Or.inl hR) h
theorem mR (i:Nat) {o:Oper}
 (h: ∀K':Act->World->Prop,Shut (∀a w,S w->R w->(S w->R w->Qt P ops Q S R z n uo a w)->K' a w)->if Region.wanted o (yielded ops a.tmps)=true then Oper.wp P o a w K' Q else K' (a.put o.dst undef) w)
 (ho:ops[i]?=some o:=by rfl) (hl:ls.setIfInBounds i true=uo:=by simp only [zO,zM,rsE];rfl) (hr:Region.ready .any ops ls= [i]:=by kernel_rfl):Qt P ops Q S R z (n+1) ls a w:=by
 subst hl;exact iO hr aX (cZ.cons ho (λK' hK=>h K' (af λa w hS hR hW=>hK.o a w hS hR hW)) cZ.nil)
theorem mM (i:Nat) {o:Oper} (h: ∀K':Act->World->Prop,Shut (∀a w,S w->Qt P ops Q S R z n uo a w->K' a w)->if Region.wanted o (yielded ops a.tmps)=true then Oper.wp P o a w K' Q else K' (a.put o.dst undef) w)
 (ho:ops[i]?=some o:=by rfl) (hl:ls.setIfInBounds i true=uo:=by simp only [zO,zM,rsE];rfl) (hr:Region.ready .any ops ls= [i]:=by kernel_rfl) (hz:wW (λj=>j==z) (ls.setIfInBounds i true)=true:=by kernel_rfl):Qt P ops Q S R z (n+1) ls a w:=by
 subst hl;exact iO hr aX (cZ.late ho hz (λK' hK=>h K' (af λa w hS hW=>hK.o a w hS λ_=>hW)) cZ.nil)
theorem mW (i:Nat) {v:Value} {o:Oper} (hS:S w) (h:Qt P ops Q S R z n uo a' w) (hi:ops[i]?=some o:=by rfl) (hy: ∀w,(execOp a.eval o).run P w= .ok (.value v) w:=by intro w;go_simp;try rfl)
 (hl:ls.setIfInBounds i true=uo:=by simp only [zO,zM,rsE];rfl) (ha:a.put o.dst v=a':=by simp only [Q_,Ra,Rb,zO,zM,rsE,Act.put];rfl)
 (h1:Region.noSelect ops=true:=by kernel_rfl) (h2:Region.free .any ops ls i=true:=by kernel_rfl)
 (h3:(Region.ready .any ops ls).contains i=true:=by kernel_rfl) (h4:(i==z)=false:=by kernel_rfl) (h8:wW (λj=>j==z) ls=true:=by kernel_rfl)
 (h5: ∀c a w,Q (.panic c) (a.put o.dst v) w->Q (.panic c) a w:=by exact λ_ _ _ h=>h) (h6:Region.wanted o (yielded ops a.tmps)=true:=by rfl):Qt P ops Q S R z (n+1) ls a w:=by
 subst hl ha;exact iJ hi h1 h2 h3 h4 h5 (Or.inl ⟨h6,λw _=>hy w⟩) hS (Or.inr h8) h
theorem mD (h:Q .normal a w) (hr:Region.ready .any ops ls= []:=by kernel_rfl):Qt P ops Q S R z n ls a w:=eh hr h _
end
open Go.RowKit
theorem AG: ∀(cs:List Value) (k:Nat) (arr:Array Value),k+cs.length<=arr.size->
 ((cs.zipIdx k).foldl (λ(a:Array Value) (p:Value×Nat)=>a.setIfInBounds (0+p.2) p.1) arr).toList=arr.toList.take k++cs++arr.toList.drop (k+cs.length)
 | [],k,arr,h=>aX
 |c::cs,k,arr,h=>by
  rw [List.zipIdx_cons,List.foldl_cons,AG cs (k+1) _ (by simp at h⊢;omega)];have hk:k<arr.toList.length:=by simp at h⊢;omega
  simp only [Nat.zero_add,Array.toList_setIfInBounds,List.length_cons];rw [List.take_succ_eq_append_getElem (by rw [List.length_set];exact hk),List.getElem_set_self,List.take_set_of_le cG,List.drop_set_of_lt ae];simp only [List.append_assoc,List.cons_append,List.nil_append];rw [show k+1+cs.length=k+(cs.length+1) by omega]
section
variable{P:Program}
theorem PG (size:Nat) (cs:List Value) (arr:Array Value) (hc:cs.length=size) (ha:arr.size=size):Instr.fill (λi=>some (i*size,size)) arr [(0,.agg cs.toArray)]=some cs.toArray:=by
 have h1:=AG cs 0 arr ae;have h2:arr.toList.drop (0+cs.length)= []:=List.drop_eq_nil_of_le (by simp;omega);rw [h2]at h1;simp only [List.take_zero,List.nil_append,List.append_nil]at h1
 have h3:((Value.agg cs.toArray).cells.zipIdx.foldl (λ(a:Array Value) (p:Value×Nat)=>a.setIfInBounds (0+p.2) p.1) arr)=cs.toArray:=by
  show(cs.toArray.zipIdx.foldl _ arr)=_;rw [show cs.toArray.zipIdx=(cs.zipIdx).toArray by simp,List.foldl_toArray];apply Array.toList_inj.1;rw [h1]
 have h4:(Value.agg cs.toArray).cells.size=size:=by show cs.toArray.size=size;simpa using hc
 unfold Instr.fill;simp only [Nat.zero_mul,h4,ha,ne_eq,not_true_eq_false,decide_false,Nat.zero_add,Nat.lt_irrefl,gt_iff_lt,Bool.or_self,Bool.false_eq_true,if_false];unfold Instr.fill;simp only [Nat.zero_add]at h3;simpa using h3
theorem um (w:World) (t e:TypeId) (z:Value) (size bytes:Nat) (ht:P.underlying t=some (.slice e)) (kD:(P.info? e).map (λi=>(i.zero,i.size,i.bytes))=some (some z,size,bytes)) (hsz:0<size) (hs:size<=100) (cs:List Value) (hc:cs.length=size):
 (Instr.buildSlice t 1 #[(0,.agg cs.toArray)]).run P w= .ok (.slice (some ⟨w.heap.size,0,none⟩) 1 1) (w.alloc (.cells cs.toArray e)):=by
 obtain ⟨i,hi,hz,hsize,hby⟩:=info_parts kD;have hf:=PG size cs ((Array.range size).map (z.cells[· % z.cells.size]!)) hc aX;have h1: ¬(16777216<size):=ae;have h2: ¬(size=0):=ae;unfold Instr.buildSlice;simp [run_underlying ht,sizeOf,typeInfo,zeroValue,newRow,newObj,hi,hz,hsize,Sem.run_bind,Result.andThen];rw [if_neg h1,if_neg h2,hf];simp;rfl
theorem j7 {o:Oper} {a:Act} {w:World} {Q:Exit->Act->World->Prop} {K:Act->World->Prop} (t:TypeId) (x:Operand) (ho:o.op= .buildSlice t 1 #[(0,x)])
 (e:TypeId) (z:Value) (size bytes:Nat) (ht:P.underlying t=some (.slice e)) (kD:(P.info? e).map (λi=>(i.zero,i.size,i.bytes))=some (some z,size,bytes)) (hsz:0<size) (hs:size<=100) (cs:List Value) (hx:a.eval x= .agg cs.toArray) (hc:cs.length=size)
 (h: ∀w',aY w' w.heap.size e cs->Ext w w'->K (a.put o.dst (.slice (some ⟨w.heap.size,0,none⟩) 1 1)) w'):Oper.wp P o a w K Q:=by
 have hr:=um (P:=P) w t e z size bytes ht kD hsz hs cs hc;unfold Oper.wp execOp;simp only [ho,Sem.run_bind,List.map_toArray,List.map_cons,List.map_nil,hx,hr,Result.andThen_ok,Sem.run_pure];exact h _ (aY.alloc _ _ _) (ah.alloc _)
theorem lW {ops:Array Oper} {rest:List Oper} {o:Oper} {a:Act} {w:World} {Q:Exit->Act->World->Prop} (hgd:o.guard=none) (t:TypeId) (x:Operand) (ho:o.op= .buildSlice t 1 #[(0,x)])
 (e:TypeId) (z:Value) (size bytes:Nat) (ht:P.underlying t=some (.slice e)) (kD:(P.info? e).map (λi=>(i.zero,i.size,i.bytes))=some (some z,size,bytes)) (hsz:0<size) (hs:size<=100) (cs:List Value) (hx:a.eval x= .agg cs.toArray) (hc:cs.length=size)
 (h: ∀w',aY w' w.heap.size e cs->Ext w w'->wpList P ops Q rest (a.put o.dst (.slice (some ⟨w.heap.size,0,none⟩) 1 1)) w'):wpList P ops Q (o::rest) a w:=
 wpList_plain hgd λK hK=>j7 t x ho e z size bytes ht kD hsz hs cs hx hc λw' h1 h2=>hK _ _ (h w' h1 h2)
end
