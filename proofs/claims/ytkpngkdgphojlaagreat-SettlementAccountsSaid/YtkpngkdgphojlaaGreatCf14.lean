/- Texts of the proof. -/
import Derived.Laws.Tables
import Derived.Test.YtkpngkdgphojlaaGreatCf5
set_option linter.all false
namespace Go.Proofs.YtkpngkdgphojlaaGreat
open Go.Proofs.Tryz
open Go.RowKit
theorem vt: ∀(cs:List Value) (k:Nat) (arr:Array Value),k+cs.length≤arr.size→
 ((cs.zipIdx k).foldl (fun(a:Array Value) (p:Value×Nat)=>a.setIfInBounds (0+p.2) p.1) arr).toList=arr.toList.take k++cs++arr.toList.drop (k+cs.length)
 | [],k,arr,h=>by simp
 |c::cs,k,arr,h=>by
  rw [List.zipIdx_cons,List.foldl_cons,vt cs (k+1) _ (by simp at h⊢;omega)];have hk:k<arr.toList.length:=by simp at h⊢;omega
  simp only [Nat.zero_add,Array.toList_setIfInBounds,List.length_cons];rw [List.take_succ_eq_append_getElem (by rw [List.length_set];exact hk),List.getElem_set_self,List.take_set_of_le (Nat.le_refl _),List.drop_set_of_lt (by omega)];simp only [List.append_assoc,List.cons_append,List.nil_append];rw [show k+1+cs.length=k+(cs.length+1) by omega]
section
variable{P:Program}
theorem I4 (size:Nat) (cs:List Value) (arr:Array Value) (hc:cs.length=size) (ha:arr.size=size):Instr.fill (fun i=>some (i*size,size)) arr [(0,.agg cs.toArray)]=some cs.toArray:=by
 have h1:=vt cs 0 arr (by omega);have h2:arr.toList.drop (0+cs.length)= []:=List.drop_eq_nil_of_le (by simp;omega);rw [h2]at h1;simp only [List.take_zero,List.nil_append,List.append_nil]at h1
 have h3:((Value.agg cs.toArray).cells.zipIdx.foldl (fun(a:Array Value) (p:Value×Nat)=>a.setIfInBounds (0+p.2) p.1) arr)=cs.toArray:=by
  show(cs.toArray.zipIdx.foldl _ arr)=_;rw [show cs.toArray.zipIdx=(cs.zipIdx).toArray by simp,List.foldl_toArray];apply Array.toList_inj.1;rw [h1]
 have h4:(Value.agg cs.toArray).cells.size=size:=by show cs.toArray.size=size;simpa using hc
 unfold Instr.fill;simp only [Nat.zero_mul,h4,ha,ne_eq,not_true_eq_false,decide_false,Nat.zero_add,Nat.lt_irrefl,gt_iff_lt,Bool.or_self,Bool.false_eq_true,if_false];unfold Instr.fill;simp only [Nat.zero_add]at h3;simpa using h3
theorem qa (w:World) (t e:TypeId) (z:Value) (size bytes:Nat) (ht:P.underlying t=some (.slice e)) (iL:(P.info? e).map (fun i=>(i.zero,i.size,i.bytes))=some (some z,size,bytes)) (hsz:0<size) (hs:size≤100) (cs:List Value) (hc:cs.length=size):
 (Instr.buildSlice t 1 #[(0,.agg cs.toArray)]).run P w= .ok (.slice (some ⟨w.heap.size,0,none⟩) 1 1) (w.alloc (.cells cs.toArray e)):=by
 obtain ⟨i,hi,hz,hsize,hby⟩:=info_parts iL;have hf:=I4 size cs ((Array.range size).map (z.cells[· % z.cells.size]!)) hc (by simp);have h1: ¬(16777216<size):=by omega
 have h2: ¬(size=0):=by omega
 unfold Instr.buildSlice;simp [run_underlying ht,sizeOf,typeInfo,zeroValue,newRow,newObj,hi,hz,hsize,Sem.run_bind,Result.andThen];rw [if_neg h1,if_neg h2,hf];simp;rfl
theorem dL {o:Oper} {a:Act} {w:World} {Q:Exit→Act→World→Prop} {K:Act→World→Prop} (t:TypeId) (x:Operand) (ho:o.op= .buildSlice t 1 #[(0,x)])
 (e:TypeId) (z:Value) (size bytes:Nat) (ht:P.underlying t=some (.slice e)) (iL:(P.info? e).map (fun i=>(i.zero,i.size,i.bytes))=some (some z,size,bytes)) (hsz:0<size) (hs:size≤100) (cs:List Value) (hx:a.eval x= .agg cs.toArray) (hc:cs.length=size)
 (h: ∀w',aQ w' w.heap.size e cs→Ext w w'→K (a.put o.dst (.slice (some ⟨w.heap.size,0,none⟩) 1 1)) w'):Oper.wp P o a w K Q:=by
 have hr:=qa (P:=P) w t e z size bytes ht iL hsz hs cs hc;unfold Oper.wp execOp;simp only [ho,Sem.run_bind,List.map_toArray,List.map_cons,List.map_nil,hx,hr,Result.andThen_ok,Sem.run_pure];exact h _ (aQ.alloc _ _ _) ((Ext.refl _).alloc _)
theorem gW {ops:Array Oper} {rest:List Oper} {o:Oper} {a:Act} {w:World} {Q:Exit→Act→World→Prop} (hgd:o.guard=none) (t:TypeId) (x:Operand) (ho:o.op= .buildSlice t 1 #[(0,x)])
 (e:TypeId) (z:Value) (size bytes:Nat) (ht:P.underlying t=some (.slice e)) (iL:(P.info? e).map (fun i=>(i.zero,i.size,i.bytes))=some (some z,size,bytes)) (hsz:0<size) (hs:size≤100) (cs:List Value) (hx:a.eval x= .agg cs.toArray) (hc:cs.length=size)
 (h: ∀w',aQ w' w.heap.size e cs→Ext w w'→wpList P ops Q rest (a.put o.dst (.slice (some ⟨w.heap.size,0,none⟩) 1 1)) w'):wpList P ops Q (o::rest) a w:=
 wpList_plain hgd fun K hK=>dL t x ho e z size bytes ht iL hsz hs cs hx hc fun w' h1 h2=>hK _ _ (h w' h1 h2)
theorem zv {o:Oper} {a:Act} {w:World} {K:Act→World→Prop} {Q:Exit→Act→World→Prop} (t:TypeId) (parts:Array (Nat×Operand)) (ho:o.op= .build t parts) (vals:List (Nat×Value)) (cs:List Value)
 (hv:(parts.map fun(i,x)=>(i,a.eval x)).toList=vals) (hb:P.built t vals=some cs.toArray) (h:K (a.put o.dst (.agg cs.toArray)) w):o.wp P a w K Q:=
 wp_build t parts ho (by rw [hv,hb];rfl) (by rw [hv,hb];exact h)
end
end Go.Proofs.YtkpngkdgphojlaaGreat
