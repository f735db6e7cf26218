/- Texts of the proof. -/
import Derived.Laws.Tables
import Derived.Test.YtbnamicbjaaelaaGreatCg21
set_option linter.all false
namespace Go.Proofs.YtbnamicbjaaelaaGreat
open Go.Proofs.Tryz
open Go.RowKit
theorem xS: ∀(cs:List Value) (k:Nat) (arr:Array Value),k+cs.length<=arr.size->
 ((cs.zipIdx k).foldl (λ(a:Array Value) (p:Value×Nat)=>a.setIfInBounds (0+p.2) p.1) arr).toList=arr.toList.take k++cs++arr.toList.drop (k+cs.length)
 | [],k,arr,h=>aG
 |c::cs,k,arr,h=>by
  rw [List.zipIdx_cons,List.foldl_cons,xS cs (k+1) _ (by simp at h⊢;omega)];have hk:k<arr.toList.length:=by simp at h⊢;omega
  simp only [Nat.zero_add,Array.toList_setIfInBounds,List.length_cons];rw [List.take_succ_eq_append_getElem (by rw [List.length_set];exact hk),List.getElem_set_self,List.take_set_of_le bY,List.drop_set_of_lt ae];simp only [List.append_assoc,List.cons_append,List.nil_append];rw [show k+1+cs.length=k+(cs.length+1) by omega]
section
variable{P:Program}
theorem Mr (size:Nat) (cs:List Value) (arr:Array Value) (hc:cs.length=size) (ha:arr.size=size):Instr.fill (λi=>some (i*size,size)) arr [(0,.agg cs.toArray)]=some cs.toArray:=by
 have h1:=xS cs 0 arr ae;have h2:arr.toList.drop (0+cs.length)= []:=List.drop_eq_nil_of_le (by simp;omega);rw [h2]at h1;simp only [List.take_zero,List.nil_append,List.append_nil]at h1
 have h3:((Value.agg cs.toArray).cells.zipIdx.foldl (λ(a:Array Value) (p:Value×Nat)=>a.setIfInBounds (0+p.2) p.1) arr)=cs.toArray:=by
  show(cs.toArray.zipIdx.foldl _ arr)=_;rw [show cs.toArray.zipIdx=(cs.zipIdx).toArray by simp,List.foldl_toArray];apply Array.toList_inj.1;rw [h1]
 have h4:(Value.agg cs.toArray).cells.size=size:=by show cs.toArray.size=size;simpa using hc
 unfold Instr.fill;simp only [Nat.zero_mul,h4,ha,ne_eq,not_true_eq_false,decide_false,Nat.zero_add,Nat.lt_irrefl,gt_iff_lt,Bool.or_self,Bool.false_eq_true,if_false];unfold Instr.fill;simp only [Nat.zero_add]at h3;simpa using h3
theorem qI (w:World) (t e:TypeId) (z:Value) (size bytes:Nat) (ht:P.underlying t=some (.slice e)) (iR:(P.info? e).map (λi=>(i.zero,i.size,i.bytes))=some (some z,size,bytes)) (hsz:0<size) (hs:size<=100) (cs:List Value) (hc:cs.length=size):
 (Instr.buildSlice t 1 #[(0,.agg cs.toArray)]).run P w= .ok (.slice (some ⟨w.heap.size,0,none⟩) 1 1) (w.alloc (.cells cs.toArray e)):=by
 obtain ⟨i,hi,hz,hsize,hby⟩:=info_parts iR;have hf:=Mr size cs ((Array.range size).map (z.cells[· % z.cells.size]!)) hc aG;have h1: ¬(16777216<size):=ae;have h2: ¬(size=0):=ae;unfold Instr.buildSlice;simp [run_underlying ht,sizeOf,typeInfo,zeroValue,newRow,newObj,hi,hz,hsize,Sem.run_bind,Result.andThen];rw [if_neg h1,if_neg h2,hf];simp;rfl
theorem dM {o:Oper} {a:Act} {w:World} {Q:Exit->Act->World->Prop} {K:Act->World->Prop} (t:TypeId) (x:Operand) (ho:o.op= .buildSlice t 1 #[(0,x)])
 (e:TypeId) (z:Value) (size bytes:Nat) (ht:P.underlying t=some (.slice e)) (iR:(P.info? e).map (λi=>(i.zero,i.size,i.bytes))=some (some z,size,bytes)) (hsz:0<size) (hs:size<=100) (cs:List Value) (hx:a.eval x= .agg cs.toArray) (hc:cs.length=size)
 (h: ∀w',aT w' w.heap.size e cs->Ext w w'->K (a.put o.dst (.slice (some ⟨w.heap.size,0,none⟩) 1 1)) w'):Oper.wp P o a w K Q:=by
 have hr:=qI (P:=P) w t e z size bytes ht iR hsz hs cs hc;unfold Oper.wp execOp;simp only [ho,Sem.run_bind,List.map_toArray,List.map_cons,List.map_nil,hx,hr,Result.andThen_ok,Sem.run_pure];exact h _ (aT.alloc _ _ _) (ar.alloc _)
theorem ij {ops:Array Oper} {rest:List Oper} {o:Oper} {a:Act} {w:World} {Q:Exit->Act->World->Prop} (hgd:o.guard=none) (t:TypeId) (x:Operand) (ho:o.op= .buildSlice t 1 #[(0,x)])
 (e:TypeId) (z:Value) (size bytes:Nat) (ht:P.underlying t=some (.slice e)) (iR:(P.info? e).map (λi=>(i.zero,i.size,i.bytes))=some (some z,size,bytes)) (hsz:0<size) (hs:size<=100) (cs:List Value) (hx:a.eval x= .agg cs.toArray) (hc:cs.length=size)
 (h: ∀w',aT w' w.heap.size e cs->Ext w w'->wpList P ops Q rest (a.put o.dst (.slice (some ⟨w.heap.size,0,none⟩) 1 1)) w'):wpList P ops Q (o::rest) a w:=
 wpList_plain hgd λK hK=>dM t x ho e z size bytes ht iR hsz hs cs hx hc λw' h1 h2=>hK _ _ (h w' h1 h2)
theorem tv {o:Oper} {a:Act} {w:World} {K:Act->World->Prop} {Q:Exit->Act->World->Prop} (t:TypeId) (parts:Array (Nat×Operand)) (ho:o.op= .build t parts) (vals:List (Nat×Value)) (cs:List Value)
 (hv:(parts.map λ(i,x)=>(i,a.eval x)).toList=vals) (hb:P.built t vals=some cs.toArray) (h:K (a.put o.dst (.agg cs.toArray)) w):o.wp P a w K Q:=
 wp_build t parts ho (by rw [hv,hb];rfl) (by rw [hv,hb];exact h)
end
def lF (c:ay) (i:Nat):Nat×Nat:=((lq c i).1.toNat,(lq c i).2.toNat)
def kept (c:ay) (l:List Nat) (gone:List Int) (k:Nat):List (Nat×Nat):=((l.take k).filter λ(i:Nat)=> !hasB gone (i:Int)).map (lF c)
theorem pO (c:ay) (l:List Nat) (gone:List Int) {k:Nat} (h:k<l.length):kept c l gone (k+1)=if hasB gone (l[k]:Int)=true then kept c l gone k else kept c l gone k++ [lF c l[k]]:=by
 unfold kept;rw [List.take_succ_eq_append_getElem h,List.filter_append];cases q:hasB gone (l[k]:Int)<;>simp [q]
theorem Mv (v:Int):hasB [] v=false:=rfl
theorem D9 (a b:List Int) (v:Int):hasB (a++b) v=(hasB a v||hasB b v):=by unfold hasB;rw [List.any_append]
theorem pj (l:List Nat) (out:List Int) (m:Nat): ∀N,hasB (aR (fW l out N)) (m:Int)=(decide (m<N)&&hasB out ((l.getD m 0:Nat):Int))
 |0=>by simp [fW,aR,hasB]
 |N+1=>by
  unfold fW;by_cases q:hasB out ((l.getD N 0:Nat):Int)=true
  .rw [if_pos q]
   have h1:aR (fW l out N++ [N])=aR (fW l out N)++ [(N:Int)]:=by simp [aR]
   rw [h1,D9,pj l out m N];by_cases hm:m=N
   .subst hm
    rw [q];simp [hasB]
   .have h2:hasB [(N:Int)] (m:Int)=false:=by simp [hasB];omega
    have h3:decide (m<N+1)=decide (m<N):=by rw [Bool.eq_iff_iff];simp;omega
    rw [h2,h3,Bool.or_false]
  .rw [if_neg q,pj l out m N]
   by_cases hm:m=N
   .subst hm
    have q':hasB out ((l.getD m 0:Nat):Int)=false:=by simpa using q
    rw [q'];simp
   .have h3:decide (m<N+1)=decide (m<N):=by rw [Bool.eq_iff_iff];simp;omega
    rw [h3]
theorem Aj (c:ay) (l:List Nat) (out:List Int): ∀m,m<=l.length->kn (l.map (lF c)) (aR (fW l out l.length)) m=kept c l out m
 |0,_=>rfl
 |m+1,h=>by
  unfold kn;rw [Aj c l out m ae,pj,pO c l out (show m<l.length by omega)];have h1:l.getD m 0=l[m]:=by rw [List.getD_eq_getElem?_getD,List.getElem?_eq_getElem ae];rfl
  have h2:(l.map (lF c)).getD m (0,0)=lF c l[m]:=by
   rw [List.getD_eq_getElem?_getD,List.getElem?_eq_getElem (by rw [List.length_map];omega)];simp
  have h3:decide (m<l.length)=true:=by simp;omega
  rw [h1,h2,h3,Bool.true_and]
theorem Mw (c:ay) (l:List Nat):kept c l [] l.length=l.map (lF c):=by
 unfold kept;rw [List.take_length,List.filter_eq_self.2 (λi _=>by rw [Mv];rfl)]
theorem B8 (c:ay) (h:Int) (x:cJ):
 (((comps c.aF.length (kept c (dz c h c.lines.length) x.lines (dz c h c.lines.length).length):Nat):Int)==((comps c.aF.length (kept c (dz c h c.lines.length) [] (dz c h c.lines.length).length):Nat):Int))= !ky c h x:=by
 unfold ky LR j5;obtain ⟨l,hl⟩: ∃l,l=dz c h c.lines.length:=⟨_,rfl⟩;rw [<-hl];have he:(l.map λi=>((lq c i).1.toNat,(lq c i).2.toNat))=l.map (lF c):=rfl;rw [he,List.length_map,Aj c l x.lines l.length bY,Mw]
 have hle:comps c.aF.length (l.map (lF c))<=comps c.aF.length (kept c l x.lines l.length):=by
  apply FW;intro p hp;unfold kept at hp;obtain ⟨i,hi,rfl⟩:=List.mem_map.1 hp;exact List.mem_map_of_mem (List.mem_of_mem_take (List.mem_filter.1 hi).1)
 rw [Bool.eq_iff_iff];simp only [beq_iff_eq,Bool.not_eq_true',decide_eq_false_iff_not];omega
structure gq (c:ay) (n:Nat) (l:List Nat) (gone:List Int) (k:Nat) (f:Nat->Nat):Prop where
 tells:lr n (kept c l gone k) f
 lt: ∀b,b<n->f b<n
theorem gq.zero (c:ay) (n:Nat) (l:List Nat) (gone:List Int):gq c n l gone 0 (λb=>b):=⟨lr.nil n,λ_ h=>h⟩
theorem Sw (n:Nat):cls (λb=>b) n=n:=by
 induction n with
 |zero=>rfl
 |succ n ih=>
  rw [sA,ih,if_pos];rw [gP];intro k hk;omega
theorem gq.same {c:ay} {n:Nat} {l:List Nat} {gone:List Int} {k:Nat} {f:Nat->Nat} (h:gq c n l gone k f) (hk:k<l.length) (hx:(lF c l[k]).1<n) (hy:(lF c l[k]).2<n) (e:f (lF c l[k]).1=f (lF c l[k]).2):gq c n l gone (k+1) f:=by
 refine ⟨?_,h.lt⟩;rw [pO c l gone hk];split
 .exact h.tells
 .exact h.tells.skip hx hy e
theorem gq.gone {c:ay} {n:Nat} {l:List Nat} {gone:List Int} {k:Nat} {f:Nat->Nat} (h:gq c n l gone k f) (hk:k<l.length) (e:hasB gone (l[k]:Int)=true):gq c n l gone (k+1) f:=by
 refine ⟨?_,h.lt⟩;rw [pO c l gone hk,if_pos e];exact h.tells
theorem gq.join {c:ay} {n:Nat} {l:List Nat} {gone:List Int} {k:Nat} {f:Nat->Nat} (h:gq c n l gone k f) (hk:k<l.length) (hx:(lF c l[k]).1<n) (hy:(lF c l[k]).2<n) (e:f (lF c l[k]).1≠f (lF c l[k]).2) (g:hasB gone (l[k]:Int)=false):
 gq c n l gone (k+1) (merge f (f (lF c l[k]).1) (f (lF c l[k]).2))/\cls (merge f (f (lF c l[k]).1) (f (lF c l[k]).2)) n+1=cls f n:=by
 refine ⟨⟨?_,?_⟩,lr.FV hx hy e⟩
 .rw [pO c l gone hk,if_neg (by rw [g];simp)]
  exact h.tells.join hx hy e
 .intro b hb
  unfold merge;split
  .exact h.lt _ hx
  .exact h.lt b hb
