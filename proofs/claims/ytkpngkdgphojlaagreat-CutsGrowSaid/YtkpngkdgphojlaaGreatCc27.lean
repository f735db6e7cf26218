/- Texts of the proof. -/
import Derived.Test.YtkpngkdgphojlaaGreatCc26
set_option linter.all false
namespace Go.Proofs.YtkpngkdgphojlaaGreat
open Go
section
variable{P:Program} {ops:Array Oper} {Q:Exit→Act→World→Prop} {md:Region.Mode}
def gM (ops:Array Oper) (m:Nat) (t:Tmp):Option Nat:=(List.range m).find? fun i=>((ops[i]?).bind (·.dst))==some t
def dL (ops:Array Oper) (m:Nat) (c:Nat→Bool) (f:Nat→Value) (a:Act):Act:=
 {a with tmps:=a.tmps.mapIdx fun t v=>match gM ops m t with|some i=>if c i then f i else v|none=>v}
def nG (md:Region.Mode) (ops:Array Oper) (m:Nat):Bool:=
 (List.range ops.size).all fun i=>match ops[i]? with
   |none=>false
   |some o=>
    if i<m then o.guard.isNone&&(match o.op with| .select ..=>false|_=>true)&&o.after.all (fun e=> !Region.binds md e||decide (e.on<i))&&
     (List.range m).all fun k=>match ops[k]? with
       |none=>false
       |some ok=>match ok.dst with
        |none=>true
        |some d=>(k==i||o.dst !=some d)&&(!(o.looksAt ops).contains d||(o.after.any fun e=>Region.binds md e&&e.on==k))
    else(List.range m).all fun k=>o.after.any fun e=>Region.binds md e&&e.on==k
theorem gp {m:Nat} {t:Tmp} {i:Nat} (h:gM ops m t=some i):i<m∧((ops[i]?).bind (·.dst))=some t:=by
 have h1:=List.mem_of_find?_eq_some h;have h2:=List.find?_some h;exact ⟨List.mem_range.1 h1,by simpa using h2⟩
theorem B0 {m:Nat} {t:Tmp} {i:Nat} (hi:i<m) (h:((ops[i]?).bind (·.dst))=some t) (hd: ∀k,k<m→k≠i→((ops[k]?).bind (·.dst))≠some t):gM ops m t=some i:=by
 cases hq:gM ops m t with
 |none=>
  have:=List.find?_eq_none.1 hq i (List.mem_range.2 hi);simp [h]at this
 |some k=>
  obtain ⟨h1,h2⟩:=gp hq;by_cases hk:k=i
  ·rw [hk]
  ·exact absurd h2 (hd k h1 hk)
theorem rq (m:Nat) (f:Nat→Value) (a:Act):dL ops m (fun _=>false) f a=a:=by
 unfold dL
 have:(a.tmps.mapIdx fun t v=>match gM ops m t with|some i=>if(fun _=>false) i=true then f i else v|none=>v)=a.tmps:=by
  apply Array.ext
  ·simp
  ·intro i h1 h2
   simp only [Array.getElem_mapIdx];split<;>simp
 rw [this]
theorem zL {m:Nat} {c c':Nat→Bool} {f:Nat→Value} {a:Act} {x:Operand} (h: ∀t k,x= .tmp t→gM ops m t=some k→c k=c' k):(dL ops m c f a).eval x=(dL ops m c' f a).eval x:=by
 cases x with
 |tmp t=>
  have ht:=h t;simp only [Act.eval,dL,Array.getD_eq_getD_getElem?,Array.getElem?_mapIdx];cases a.tmps[t]? with
  |none=>rfl
  |some v=>
   simp only [Option.map_some];cases hq:gM ops m t with
   |none=>rfl
   |some k=>simp only [ht k rfl hq]
 |_=>rfl
theorem ui {m i:Nat} {c:Nat→Bool} {f:Nat→Value} {a:Act} {o:Oper} {v:Value} (hi:i<m) (ho:ops[i]?=some o) (hd: ∀d,o.dst=some d→ ∀k,k<m→k≠i→((ops[k]?).bind (·.dst))≠some d):
 (dL ops m c f a).put o.dst v=dL ops m (fun k=>c k||k==i) (fun k=>if k=i then v else f k) a:=by
 cases Kb:o.dst with
 |none=>
  unfold dL Act.put;simp only;congr 1
  apply Array.ext
  ·simp
  ·intro t h1 h2
   simp only [Array.getElem_mapIdx];cases hq:gM ops m t with
   |none=>rfl
   |some k=>
    have hk:k≠i:=fun e=>by
     have h3:=(gp hq).2;rw [e,ho]at h3;simp [Kb]at h3
    simp [hk]
 |some d=>
  unfold dL Act.put;simp only;congr 1
  apply Array.ext_getElem?;intro t;have hown:gM ops m d=some i:=B0 hi (by rw [ho];exact Kb) (hd d Kb);by_cases ht:d=t
  ·subst ht
   rw [Array.getElem?_setIfInBounds_self];simp only [Array.getElem?_mapIdx,Array.size_mapIdx,hown,beq_self_eq_true,Bool.or_true,if_true];by_cases hs:d<a.tmps.size
   ·simp [hs]
   ·simp [hs]
  ·rw [Array.getElem?_setIfInBounds_ne ht]
   simp only [Array.getElem?_mapIdx];cases a.tmps[t]? with
   |none=>rfl
   |some u=>
    simp only [Option.map_some];cases hq:gM ops m t with
    |none=>rfl
    |some k=>
     have hk:k≠i:=fun e=>by
      have h3:=(gp hq).2;rw [e,ho]at h3;rw [Option.bind_some,Kb]at h3;exact ht (Option.some.inj h3)
     simp [hk]
theorem Kd {a b:Act} (hs:a.tmps.size=b.tmps.size) {d:Option Tmp} {u v:Value} (e:b.put d u=b.put d v):a.put d u=a.put d v:=by
 cases d with
 |none=>rfl
 |some d=>
  by_cases h:d<b.tmps.size
  ·have h1:(b.put (some d) u).tmps[d]?=(b.put (some d) v).tmps[d]?:=by rw [e]
   simp [Act.put,h]at h1;rw [h1]
  ·have hd:a.tmps.size≤d:=by rw [hs];exact Nat.le_of_not_lt h
   simp [Act.put,Array.setIfInBounds_eq_of_size_le hd]
theorem NC {o:Oper} {a b:Act} {w:World} {K:Act→World→Prop} {R:Value→World→Prop} (he:execOp a.eval o=execOp b.eval o) (hs:a.tmps.size=b.tmps.size) (vn:a.defers=b.defers) (hQ: ∀c t t' d w,Q (.panic c) ⟨t,d⟩ w→Q (.panic c) ⟨t',d⟩ w)
 (h:Oper.wp P o b w (fun b' w'=> ∃v,b'=b.put o.dst v∧R v w') Q) (hK: ∀v w',R v w'→K (a.put o.dst v) w'):Oper.wp P o a w K Q:=by
 have hQ': ∀c w,Q (.panic c) b w→Q (.panic c) a w:=fun c w h=>by
  cases a with
  |mk t d=>cases b with
   |mk t' d'=>cases vn;exact hQ _ _ _ _ _ h
 have Ke:=fun u v e=>Kd (u:=u) (v:=v) hs (d:=o.dst) e;unfold Oper.wp at*;rw [he];generalize (execOp b.eval o).run P w=r at*;cases r with
 |ok n w'=>
  cases n<;>simp only [Oper.upon]at h⊢
  case value u=>
   obtain ⟨v,e,hr⟩:=h;rw [Ke u v e];exact hK v w' hr
  case skip=>
   obtain ⟨v,e,hr⟩:=h;rw [Ke undef v e];exact hK v w' hr
  case defer d=>
   obtain ⟨v,e,hr⟩:=h;have h1:({b with defers:=d::b.defers}.put o.dst undef).defers.length=(b.put o.dst v).defers.length:=by rw [e]
   exfalso;cases hd:o.dst<;>simp [Act.put,hd]at h1
  case enter f args=>
   refine Calls.mono h fun e w'' RO=> ?_;cases e with
   |returned u=>
    obtain ⟨v,e,hr⟩:=RO;show K (a.put o.dst u) w'';rw [Ke u v e];exact hK v w'' hr
   |panicked c=>exact hQ' _ _ RO
   |outgrown=>exact RO
  case row row args=>
   refine Rows.mono h fun u w'' RO=> ?_;obtain ⟨v,e,hr⟩:=RO;rw [Ke u v e];exact hK v w'' hr
 |halt x w'=>
  cases x<;>simp only [Oper.upon]at h⊢
  case panic u=>exact hQ' _ _ h
structure V_ (md:Region.Mode) (ops:Array Oper) (m i:Nat) (o:Oper):Prop where
 guard:o.guard=none
 sel: ∀cs b,o.op≠ .select cs b
 low: ∀e∈o.after,Region.binds md e=true→e.on<i
 dst: ∀d,o.dst=some d→ ∀k,k<m→k≠i→((ops[k]?).bind (·.dst))≠some d
 reads: ∀t∈o.looksAt ops,∀k,k<m→((ops[k]?).bind (·.dst))=some t→ ∃e∈o.after,Region.binds md e=true∧e.on=k
theorem mX {m i:Nat} {o:Oper} (h:nG md ops m=true) (ho:ops[i]?=some o) (hi:i<m):V_ md ops m i o:=by
 have hlt:i<ops.size:=(Array.getElem?_eq_some_iff.1 ho).1;have h1:=List.all_eq_true.1 h i (List.mem_range.2 hlt);simp only [ho,hi,if_true,Bool.and_eq_true]at h1;obtain ⟨⟨⟨h2,h3⟩,h4⟩,h5⟩:=h1
 have hk: ∀k,k<m→ ∀ok d,ops[k]?=some ok→ok.dst=some d→((k==i||o.dst !=some d)=true)∧((!(o.looksAt ops).contains d||(o.after.any fun e=>Region.binds md e&&e.on==k))=true):=fun k hk ok d h6 h7=>by
  have h8:=List.all_eq_true.1 h5 k (List.mem_range.2 hk);simp only [h6,h7,Bool.and_eq_true]at h8;exact h8
 refine ⟨by simpa using h2,fun cs b e=>by rw [e]at h3;simp at h3,fun e he hb=> ?_,fun d hd k oJ hk2 e=> ?_,fun t ht k oJ e=> ?_⟩
 ·have:=Array.all_eq_true_iff_forall_mem.1 h4 e he
  simpa [hb]using this
 ·cases eR:ops[k]? with
  |none=>rw [eR]at e;simp at e
  |some ok=>
   rw [eR]at e;have:=(hk k oJ ok d eR (by simpa using e)).1;simp [hk2,hd]at this
 ·cases eR:ops[k]? with
  |none=>rw [eR]at e;simp at e
  |some ok=>
   rw [eR]at e;have h8:=(hk k oJ ok t eR (by simpa using e)).2;have h9:(o.looksAt ops).contains t=true:=by simpa using ht
   rw [h9]at h8;simp only [Bool.not_true,Bool.false_or]at h8;obtain ⟨x,hx,hb⟩:=Array.any_eq_true'.1 h8;simp only [Bool.and_eq_true,beq_iff_eq]at hb;exact ⟨x,hx,hb.1,hb.2⟩
theorem xC {m j:Nat} {o:Oper} (h:nG md ops m=true) (ho:ops[j]?=some o) (hj: ¬j<m) (k:Nat) (hk:k<m): ∃e∈o.after,Region.binds md e=true∧e.on=k:=by
 have hlt:j<ops.size:=(Array.getElem?_eq_some_iff.1 ho).1;have h1:=List.all_eq_true.1 h j (List.mem_range.2 hlt);simp only [ho,hj,if_false]at h1;have h2:=List.all_eq_true.1 h1 k (List.mem_range.2 hk);obtain ⟨x,hx,hb⟩:=Array.any_eq_true'.1 h2;simp only [Bool.and_eq_true,beq_iff_eq]at hb;exact ⟨x,hx,hb.1,hb.2⟩
def mY (m:Nat) (ls:Array Bool):Nat:=((List.range m).filter fun i=> !ls.getD i false).length
theorem En {m i:Nat} {ls:Array Bool} (hi:i<m) (hs:i<ls.size) (h:ls.getD i false=false):mY m ls=mY m (ls.setIfInBounds i true)+1:=by
 unfold mY;induction m with
 |zero=>omega
 |succ m ih=>
  rw [List.range_succ,List.filter_append,List.filter_append,List.length_append,List.length_append];by_cases hm:i=m
  ·subst hm
   have h1:((List.range i).filter fun k=> !(ls.setIfInBounds i true).getD k false)=(List.range i).filter fun k=> !ls.getD k false:=by
    apply List.filter_congr;intro k hk;have:i≠k:=fun e=>by have:=List.mem_range.1 hk;omega
    rw [getD_set_ne false this]
   rw [h1];have h2:(ls.setIfInBounds i true).getD i false=true:=by simp [hs]
   simp only [List.filter_cons,List.filter_nil,h,h2];simp
  ·have h2:(ls.setIfInBounds i true).getD m false=ls.getD m false:=getD_set_ne false hm
   have:=ih (by omega);simp only [List.filter_cons,List.filter_nil,h2];omega
theorem pP (n j:Nat):(Array.replicate n false).getD j false=false:=by
 simp only [Array.getD_eq_getD_getElem?,Array.getElem?_replicate];split<;>rfl
theorem wb {m:Nat} {ls:Array Bool} (h:0<mY m ls): ∃i,i<m∧ls.getD i false=false∧ ∀j,j<i→ls.getD j false=true:=by
 unfold mY at h;induction m with
 |zero=>simp at h
 |succ m ih=>
  by_cases hm:0<((List.range m).filter fun i=> !ls.getD i false).length
  ·obtain ⟨i,h1,h2⟩:=ih hm
   exact ⟨i,by omega,h2⟩
  ·have h0:((List.range m).filter fun i=> !ls.getD i false)= []:=List.eq_nil_of_length_eq_zero (by omega)
   refine ⟨m,by omega,?_,fun j hj=> ?_⟩
   ·rw [List.range_succ,List.filter_append,h0]at h
    cases q:ls.getD m false with
    |false=>rfl
    |true=>simp only [List.filter_cons,List.filter_nil,q]at h;simp at h
   ·have:=List.filter_eq_nil_iff.1 h0 j (List.mem_range.2 hj)
    simpa using this
theorem B4 {m:Nat} {ls:Array Bool} (h:mY m ls=0): ∀i,i<m→ls.getD i false=true:=fun i hi=>by
 have:=List.filter_eq_nil_iff.1 (List.eq_nil_of_length_eq_zero h) i (List.mem_range.2 hi);simpa using this
theorem mZ (m:Nat) (base:Act) (D:Nat→Value→World→Prop) (G:World→Prop) (rY:nG md ops m=true) (hm:m≤ops.size) (hQ: ∀c t t' d w,Q (.panic c) ⟨t,d⟩ w→Q (.panic c) ⟨t',d⟩ w)
 (step: ∀i,i<m→ ∀o,ops[i]?=some o→ ∀(f:Nat→Value) (w:World),G w→(∀e∈o.after,Region.binds md e=true→D e.on (f e.on) w)→
   ∀K:Act→World→Prop,(∀v w',G w'→D i v w'→(∀j u,j<m→j≠i→D j u w→D j u w')→K ((dL ops m (fun _=>true) f base).put o.dst v) w')→Oper.wp P o (dL ops m (fun _=>true) f base) w K Q)
 (rest: ∀(f:Nat→Value) (w:World),G w→(∀i,i<m→D i (f i) w)→wpAny P md ops Q (ops.size-m) ((List.replicate m true++List.replicate (ops.size-m) false).toArray) (dL ops m (fun _=>true) f base) w):
 ∀(k:Nat) (ls:Array Bool) (f:Nat→Value) (w:World),mY m ls=k→ls.size=ops.size→(∀j,m≤j→ls.getD j false=false)→G w→(∀i,i<m→ls.getD i false=true→D i (f i) w)→
  wpAny P md ops Q (ops.size-m+k) ls (dL ops m (fun i=>ls.getD i false) f base) w
 |0,ls,f,w,hk,hs,OI,hG,hD=>by
  have hall:=B4 hk
  have h1:ls=(List.replicate m true++List.replicate (ops.size-m) false).toArray:=by
   apply Array.ext
   ·simp [hs];omega
   ·intro i h1 h2
    have h3:ls[i]=ls.getD i false:=by simp [h1]
    rw [h3];by_cases hi:i<m
    ·rw [hall i hi];simp [hi]
    ·rw [OI i (by omega)];simp [List.getElem_append,hi]
  have h2:dL ops m (fun i=>ls.getD i false) f base=dL ops m (fun _=>true) f base:=by
   unfold dL;congr 1
   apply Array.ext_getElem?;intro t;simp only [Array.getElem?_mapIdx];cases base.tmps[t]? with
   |none=>rfl
   |some u=>
    simp only [Option.map_some];cases hq:gM ops m t with
    |none=>rfl
    |some k=>simp only [hall k (gp hq).1]
  rw [h2];have:=rest f w hG (fun i hi=>hD i hi (hall i hi));rw [←h1]at this;exact this
 |k+1,ls,f,w,hk,hs,OI,hG,hD=>by
  refine ⟨fun hnil=> ?_,fun i hi=> ?_⟩
  ·exfalso
   obtain ⟨i,h1,h2,h3⟩:=wb (ls:=ls) (m:=m) (by omega);have hlt:i<ops.size:=by omega
   have ho:ops[i]?=some ops[i]:=Array.getElem?_eq_getElem hlt;have eR:=mX rY ho h1
   have:i∈Region.ready md ops ls:=by
    rw [mem_ready];refine ⟨?_,ops[i],ho,fun e he hb=>h3 _ (eR.low e he hb)⟩;have h5:i<ls.size:=by omega
    simp [h5]at h2⊢;exact h2
   rw [hnil]at this;cases this
  ·obtain ⟨h0,o,ho,hall⟩:=mem_ready.1 hi
   have hlt:i<ls.size:=by have:=(Array.getElem?_eq_some_iff.1 ho).1;omega
   have XL:ls.getD i false=false:=by simp [hlt]at h0⊢;exact h0
   have Tu:i<m:=by
    apply Classical.byContradiction;intro hni;obtain ⟨q,h1,h2,-⟩:=wb (ls:=ls) (m:=m) (by omega);obtain ⟨e,he,hb,heq⟩:=xC rY ho hni q h1;have:=hall e he hb;rw [heq,h2]at this;cases this
   have eR:=mX rY ho Tu;unfold wpOp;simp only [ho]
   have hw:Region.wanted o (yielded ops (dL ops m (fun i=>ls.getD i false) f base).tmps)=true:=by
    unfold Region.wanted;rw [eR.guard]
   rw [if_pos hw];refine .inl (NC (R:=fun v w'=>G w'∧D i v w'∧ ∀j u,j<m→j≠i→D j u w→D j u w') (b:=dL ops m (fun _=>true) f base) ?_ (by simp [dL]) rfl hQ ?_ ?_)
   ·refine execOp_congr o eR.sel fun x hx=>zL fun t q hxt hown=> ?_
    obtain ⟨h1,h2⟩:=gp hown;have Mh:t∈o.looksAt ops:=List.mem_append_left _ (List.mem_filterMap.2 ⟨.tmp t,by subst hxt;simpa using hx,rfl⟩);obtain ⟨e,he,hb,heq⟩:=eR.reads t Mh q h1 h2;have:=hall e he hb;rw [heq]at this;exact this
   ·exact step i Tu o ho f w hG (fun e he hb=>hD _ (by have:=eR.low e he hb;omega) (hall e he hb)) _ (fun v w' h1 h2 h3=>⟨v,rfl,h1,h2,h3⟩)
   ·rintro v w' ⟨h1,h2,h3⟩
    rw [ui Tu ho eR.dst]
    have hc:(fun q=>ls.getD q false||q==i)=fun q=>(ls.setIfInBounds i true).getD q false:=by
     funext q
     by_cases hq:i=q
     ·subst hq;simp [hlt]
     ·rw [getD_set_ne false hq]
      have:(q==i)=false:=by simp;omega
      rw [this,Bool.or_false]
    rw [hc];refine mZ m base D G rY hm hQ step rest k (ls.setIfInBounds i true) _ w' (by have:=En Tu hlt XL;omega) (by simpa using hs) (fun j hj=>by rw [getD_set_ne false (by omega)];exact OI j hj) h1 fun j hj hl=> ?_;by_cases rF:j=i
    ·subst rF;simpa using h2
    ·rw [getD_set_ne false (fun e=>rF e.symm)]at hl
     simp only [rF,if_false];exact h3 j _ hj rF (hD j hj hl)
theorem rZ {id:Nat} {base:Act} {w:World} (m:Nat) (D:Nat→Value→World→Prop) (G:World→Prop) (hf:P.follows .mixedOrders=true) (rY:nG .any ops m=true) (hm:m≤ops.size)
 (hQ: ∀c t t' d w,Q (.panic c) ⟨t,d⟩ w→Q (.panic c) ⟨t',d⟩ w) (hG:G w.drew)
 (step: ∀i,i<m→ ∀o,ops[i]?=some o→ ∀(f:Nat→Value) (w:World),G w→(∀e∈o.after,Region.binds .any e=true→D e.on (f e.on) w)→
   ∀K:Act→World→Prop,(∀v w',G w'→D i v w'→(∀j u,j<m→j≠i→D j u w→D j u w')→K ((dL ops m (fun _=>true) f base).put o.dst v) w')→Oper.wp P o (dL ops m (fun _=>true) f base) w K Q)
 (rest: ∀(f:Nat→Value) (w:World),G w→(∀i,i<m→D i (f i) w)→wpAny P .any ops Q (ops.size-m) ((List.replicate m true++List.replicate (ops.size-m) false).toArray) (dL ops m (fun _=>true) f base) w):(Code.region id ops true).wp P Q base w:=by
 refine wp_region_any hf ?_;have h:=mZ m base D G rY hm hQ step rest (mY m (Array.replicate ops.size false)) (Array.replicate ops.size false) (fun _=>undef) w.drew rfl (by simp) (fun j hj=>pP _ j) hG (fun i hi h=>by rw [pP]at h;cases h)
 have h1:(fun i=>(Array.replicate ops.size false).getD i false)=fun _=>false:=by
  funext i;exact pP _ i
 have h2:ops.size-m+mY m (Array.replicate ops.size false)=ops.size:=by
  have:mY m (Array.replicate ops.size false)=m:=by
   unfold mY;rw [List.filter_eq_self.2 (fun i _=>by rw [pP];rfl)];simp
  omega
 rw [h1,h2,rq]at h;exact h
def nH:Nat→List (Option Tmp)→(Nat→Value)→Act→Act
 |_,[],_,a=>a
 |k,d::ds,f,a=>nH (k+1) ds f (a.put d (f k))
theorem ry {m:Nat} (rY:nG md ops m=true) (hm:m≤ops.size) (f:Nat→Value) (base:Act): ∀(ds:List (Option Tmp)) (k:Nat),k+ds.length=m→(∀j,j<ds.length→ds[j]?=some ((ops[k+j]?).bind (·.dst)))→
 nH k ds f (dL ops m (fun q=>decide (q<k)) f base)=dL ops m (fun _=>true) f base
 | [],k,hk,_=>by
   show dL _ _ _ _ _=_;simp only [List.length_nil,Nat.add_zero]at hk;subst hk;unfold dL;congr 1
   apply Array.ext_getElem?;intro t;simp only [Array.getElem?_mapIdx];cases base.tmps[t]? with
   |none=>rfl
   |some u=>
    simp only [Option.map_some];cases hq:gM ops k t with
    |none=>rfl
    |some q=>simp only [decide_eq_true (gp hq).1]
 |d::ds,k,hk,hd=>by
  simp only [List.length_cons]at hk;have Zn:k<m:=by omega
  have ho:ops[k]?=some ops[k]:=Array.getElem?_eq_getElem (by omega);have h0:=hd 0 (by simp);rw [Nat.add_zero,ho]at h0;simp only [List.getElem?_cons_zero,Option.bind_some,Option.some.injEq]at h0;subst h0;show nH (k+1) ds f ((dL ops m (fun q=>decide (q<k)) f base).put ops[k].dst (f k))=_;rw [ui Zn ho (mX rY ho Zn).dst];have h1:(fun q=>if q=k then f k else f q)=f:=by funext q;split<;>simp_all
  have h2:(fun q=>decide (q<k)||q==k)=fun q=>decide (q<k+1):=by
   funext q
   by_cases h3:q<k
   ·have h5:q<k+1:=by omega
    simp [h3,h5]
   ·by_cases h4:q=k
    ·simp [h4]
    ·have h5: ¬q<k+1:=fun e=>h4 (Nat.le_antisymm (Nat.le_of_lt_succ e) (Nat.le_of_not_lt h3))
     simp [h3,h4,h5]
  rw [h1,h2];refine ry rY hm f base ds (k+1) (by omega) fun j hj=> ?_;have:=hd (j+1) (by simp;omega);simp only [List.getElem?_cons_succ]at this;rw [this];congr 2;congr 1;omega
def er (P:Program) (ops:Array Oper) (Q:Exit→Act→World→Prop) (m:Nat) (D:Nat→Value→World→Prop) (G:World→Prop) (A:(Nat→Value)→Act) (rs:List Nat):Prop:=
 ∀i∈rs,∀o,ops[i]?=some o→ ∀(f:Nat→Value) (w:World),G w→(∀e∈o.after,Region.binds .any e=true→D e.on (f e.on) w)→
  ∀K:Act→World→Prop,Shut (∀v w',G w'→D i v w'→(∀j u,j<m→j≠i→D j u w→D j u w')→K ((A f).put o.dst v) w')→Oper.wp P o (A f) w K Q
theorem er.nil {m:Nat} {D:Nat→Value→World→Prop} {G:World→Prop} {A:(Nat→Value)→Act}:er P ops Q m D G A []:=fun _ h=>by cases h
theorem er.cons {m:Nat} {D:Nat→Value→World→Prop} {G:World→Prop} {A:(Nat→Value)→Act} {i:Nat} {o:Oper} {rs:List Nat} (ho:ops[i]?=some o)
 (h: ∀(f:Nat→Value) (w:World),G w→(∀e∈o.after,Region.binds .any e=true→D e.on (f e.on) w)→
   ∀K:Act→World→Prop,Shut (∀v w',G w'→D i v w'→(∀j u,j<m→j≠i→D j u w→D j u w')→K ((A f).put o.dst v) w')→Oper.wp P o (A f) w K Q)
 (hs:er P ops Q m D G A rs):er P ops Q m D G A (i::rs):=fun j hj o' iC=>by
 rcases List.mem_cons.1 hj with rfl|hj
 ·rw [ho]at iC;cases iC;exact h
 ·exact hs j hj o' iC
theorem er.take {m:Nat} {D:Nat→Value→World→Prop} {G:World→Prop} {A:(Nat→Value)→Act} {i:Nat} {o:Oper} {rs:List Nat} (ho:ops[i]?=some o)
 (h: ∀(f:Nat→Value) (w:World),G w→(∀e∈o.after,Region.binds .any e=true→D e.on (f e.on) w)→ ∃v,(execOp (A f).eval o).run P w= .ok (.value v) w∧D i v w)
 (hs:er P ops Q m D G A rs):er P ops Q m D G A (i::rs):=er.cons ho (fun f w hG hd K hK=>by
 obtain ⟨v,h1,h2⟩:=h f w hG hd;unfold Oper.wp;rw [h1];exact hK v w hG h2 fun _ _ _ _ h=>h) hs
theorem pQ {id:Nat} {base:Act} {w:World} (ds:List (Option Tmp)) (D:Nat→Value→World→Prop) (G:World→Prop) {A:(Nat→Value)→Act} (hA: ∀f,nH 0 ds f base=A f) (hf:P.follows .mixedOrders=true)
 (rY:nG .any ops ds.length=true) (hm:ds.length≤ops.size) (hds:ds=(List.range ds.length).map fun i=>(ops[i]?).bind (·.dst)) (hQ: ∀c t t' d w,Q (.panic c) ⟨t,d⟩ w→Q (.panic c) ⟨t',d⟩ w) (hG:G w.drew)
 (step:er P ops Q ds.length D G A (List.range ds.length))
 (rest: ∀(f:Nat→Value) (w:World),G w→(∀i,i<ds.length→D i (f i) w)→wpAny P .any ops Q (ops.size-ds.length) ((List.replicate ds.length true++List.replicate (ops.size-ds.length) false).toArray) (A f) w):(Code.region id ops true).wp P Q base w:=by
 have hall: ∀f,dL ops ds.length (fun _=>true) f base=A f:=fun f=>by
  rw [←hA f,←ry rY hm f base ds 0 (by omega) fun j hj=> ?_]
  ·congr 1
   have:(fun q=>decide (q<0))=fun _=>false:=by funext q;simp
   rw [this,rq]
  ·rw [hds];simp [hj]
 refine rZ ds.length D G hf rY hm hQ hG (fun i hi o ho f w hG hd K hK=> ?_) fun f w hG hD=> ?_
 ·rw [hall]at hK⊢
  exact step i (List.mem_range.2 hi) o ho f w hG hd K hK
 ·rw [hall];exact rest f w hG hD
end
open Go.RowKit
def gq (gb:Nat):List Value:= [.string {data:= #[103]},i64 0,i64 10,i64 20,.slice (some ⟨gb,0,none⟩) 1 1,i64 7,i64 20,i64 20,i64 20,i64 20,i64 1,i64 1,i64 0,i64 0,i64 0,i64 1,i64 0,i64 0,.slice none 0 0,i64 2,i64 1,i64 15]
def jT (rb bb ub:Nat):List Value:= [i64 1,.slice (some ⟨rb,0,none⟩) 1 1,.slice (some ⟨bb,0,none⟩) 1 1,.slice none 0 0,.slice (some ⟨ub,0,none⟩) 1 1,.slice none 0 0,.slice none 0 0,.slice none 0 0]
section
variable{P:Program}
theorem xD {ops:Array Oper} {rest:List Oper} {o:Oper} {a:Act} {w:World} {Q:Exit→Act→World→Prop} (hgd:o.guard=none) (t:TypeId) (parts:Array (Nat×Operand)) (ho:o.op= .build t parts) (vals:List (Nat×Value)) (cs:List Value)
 (hv:(parts.map fun(i,x)=>(i,a.eval x)).toList=vals) (hb:P.built t vals=some cs.toArray) (h:wpList P ops Q rest (a.put o.dst (.agg cs.toArray)) w):wpList P ops Q (o::rest) a w:=
 wpList_plain hgd fun K hK=>pH t parts ho vals cs hv hb (hK _ _ h)
end
section
variable{P:Program}
theorem cR {o:Oper} {a:Act} {w:World} (ty:TypeId) (x:Operand) (ho:o.op= .load ty x) (p:Addr) (hx:a.eval x= .pointer (some p)) (cs:List Value) (d:TypeDesc) (hc: ∀j v,cs[j]?=some v→w.cell? (p.add j)=some v)
 (hu:P.underlying ty=some d) (hd:(match d with| .struct _| .array _ _=>true|_=>false)=true) (hi:(P.info? ty).map (·.size)=some cs.length):(execOp a.eval o).run P w= .ok (.value (.agg cs.toArray)) w:=by
 unfold execOp;simp only [ho,hx,Instr.loadAt,Instr.sureAddr,Sem.run_bind,Sem.run_pure,Result.andThen_ok,eL w p ty cs d hc hu hd hi]
theorem ew {o:Oper} {a:Act} {w:World} {Q:Exit→Act→World→Prop} {K:Act→World→Prop} (ty:TypeId) (x y:Operand) (ho:o.op= .store ty x y)
 (R:Nat) (cs cs':List Value) (hA:aG w R ty cs) (hx:a.eval x= .pointer (some ⟨R,0,none⟩)) (hy:a.eval y= .agg cs'.toArray) (hi:(P.info? ty).map (·.size)=some cs'.length) (hold:cs.length=cs'.length) (h1:cs'.all (·.oneCell')=true)
 (h: ∀w',aG w' R ty cs'→ak R w w'→K (a.put o.dst undef) w'):Oper.wp P o a w K Q:=by
 have hr:=run_storeVar_row (P:=P) w R ty ty cs.toArray cs'.toArray hA (by simpa using hi) (by simpa using hold) (by simpa using h1);unfold Oper.wp execOp;simp only [ho,hx,hy,Instr.storeAt,Instr.sureAddr,Sem.run_bind,Sem.run_pure,Result.andThen_ok,hr];refine h _ ?_ ?_
 ·exact setRow_heap w R cs.toArray cs'.toArray ty (0,0) hA
 ·refine ⟨rfl,rfl,rfl,Nat.le_refl _,by simp [World.setRow],fun k hk hne=> ?_⟩
  simp [World.setRow,Array.getElem?_modify,Ne.symm hne]
end
theorem Tryz.info_unitE:(Tryz.prog.info? 67).map (fun i=>(i.zero,i.size,i.bytes))=some (some (.agg jb.cells.toArray),22,216):=by kernel_rfl
theorem xE {P:Program} {fn:Func} {tmps:Array Value} {w:World} {R R2:Nat} {ty RP:TypeId} {cs Tv:List Value} (k k2:Nat) (d d2:TypeDesc) (hres:fn.results= #[.cell k ty,.cell k2 RP]) (ht:tmps.getD k undef= .pointer (some ⟨R,0,none⟩)) (Zo:tmps.getD k2 undef= .pointer (some ⟨R2,0,none⟩)) (hA:aG w R ty cs) (S3:aG w R2 RP Tv)
 (hu:P.underlying ty=some d) (JO:P.underlying RP=some d2) (hd:(match d with| .struct _| .array _ _=>true|_=>false)=true) (E6:(match d2 with| .struct _| .array _ _=>true|_=>false)=true) (hi:(P.info? ty).map (·.size)=some cs.length) (II:(P.info? RP).map (·.size)=some Tv.length):(results fn tmps).run P w= .ok (.tuple #[.agg cs.toArray,.agg Tv.toArray]) w:=by
 have h:=eL (P:=P) w ⟨R,0,none⟩ ty cs d (fun j v hj=>by rw [dP,hA.cell j];exact hj) hu hd hi;have h2:=eL (P:=P) w ⟨R2,0,none⟩ RP Tv d2 (fun j v hj=>by rw [dP,S3.cell j];exact hj) JO E6 II;simp only [results,hres];simp only [Array.getD_eq_getD_getElem?]at ht Zo;simp [ht,Zo,asAddr,h,h2]
theorem Hu {w:World} {B:Nat} {e:TypeId} {ga:Option Addr} {gc:Nat} {row:List Value} (h:aH w B e 3 (.slice ga 1 gc) [row]): ∃(g:Nat) (p0 p1 p2:Value) (sp:List Value),ga=some ⟨g,0,none⟩∧B≤g∧aG w g e (p0::p1::p2::sp):=by
 have hl:=h.len row (by simp);rcases h.own.2 with⟨h0,-⟩|⟨g,cap,cur,hv,hb,hc,hn,di,hcs,ht⟩
 ·simp at h0
 ·simp only [Value.slice.injEq]at hv
  obtain ⟨rfl,-,-⟩:=hv;match row,hl with
  | [p0,p1,p2],_=>
    have h3:cur.toList.take 3= [p0,p1,p2]:=by simpa using ht
    refine ⟨g,p0,p1,p2,cur.toList.drop 3,rfl,hb,?_⟩
    have h4:cur=(p0::p1::p2::cur.toList.drop 3).toArray:=by
     apply Array.toList_inj.1;have:=List.take_append_drop 3 cur.toList;rw [h3]at this;simpa using this.symm
    show w.heap[g]?=_;rw [hc];congr
set_option maxHeartbeats 4000000 in
set_option maxRecDepth 100000 in
theorem B5 (V:World):
 Calls Tryz.prog 93 #[] V fun e w'=> ∃(gb rb db bb ub:Nat) (sv:List Value),e= .returned (.tuple #[.agg (jT rb bb ub).toArray,.agg sv.toArray])∧sv.length=8∧sv.all (·.oneCell')=true∧(V.heap.size≤gb∧gb<rb∧rb<db∧db<bb∧bb<ub)∧aG w' gb 138 [i64 10,i64 2]∧aG w' rb 3 [i64 0]∧aG w' db 3 [i64 15]∧aG w' bb 74 [.string {data:= #[97]},.slice (some ⟨db,0,none⟩) 1 1,i64 0]∧aG w' ub 67 (gq gb)∧Ext V w':=by
 go_enter Tryz.func93,Tryz.ntmps93
 go_upto_region 1 with fail
 obtain ⟨W0,hW,x0,Z0,A0,A1⟩:=fP V 32 jc.cells 153 jn;rw [show(V.alloc (.cells #[i64 0,.slice none 0 0,.slice none 0 0,.slice none 0 0,.slice none 0 0,.slice none 0 0,.slice none 0 0,.slice none 0 0] 32)).alloc (.cells #[.slice none 0 0,.slice none 0 0,.slice none 0 0,.slice none 0 0,.slice none 0 0,.slice none 0 0,.slice none 0 0,.slice none 0 0] 153)=W0 from hW.symm];obtain ⟨C,hC⟩: ∃C,C=V.heap.size:=⟨_,rfl⟩;obtain ⟨S,hS⟩: ∃S,S=C+1:=⟨_,rfl⟩;have hz0:=Z0.out;rw [←hC]at A0 A1⊢;rw [←hS]at A1⊢;have JK:Hid (V.heap.size≤C∧C<S∧V.heap.size≤S∧S<W0.heap.size):=by(show _∧_∧_∧_;omega)
 have HC:=ae A0;have HS:=ae A1;have HX:=ae x0
 clear hW x0 Z0 A0 A1 hC hS hz0;iterate 7 go_step
 obtain ⟨W1,hW,x1,-,A1⟩:=aB W0 138 [i64 10,i64 2];rw [show W0.alloc (.cells #[i64 10,i64 2] 138)=W1 from hW.symm];obtain ⟨gb,hgb⟩: ∃gb,gb=W0.heap.size:=⟨_,rfl⟩;rw [←hgb]at A1⊢;have OJ:Hid (W0.heap.size≤gb∧gb<W1.heap.size):=⟨by show _≤_;omega,A1.lt⟩;have Zp:=ae A1;have eK:=ae x1
 clear hW x1 A1 hgb;go_upto_region 2 with(first|(refine xD rfl 67 _ rfl [(0,.string {data:= #[103]}),(2,i64 10),(3,i64 20),(4,.slice (some ⟨gb,0,none⟩) 1 1),(5,i64 7),(8,i64 20),(9,i64 20),(6,i64 20),(7,i64 20),(10,i64 1),(11,i64 1),(15,i64 1),(19,i64 2),(20,i64 1),(21,i64 15)] (gq gb) (by simp [Act.eval]) (by kernel_rfl) ?_)|(refine bD rfl 67 _ _ rfl jb.cells (gq gb) rfl rfl (by kernel_rfl) rfl rfl ?_))
 obtain ⟨W2,hW,x2,-,A2⟩:=aB W1 67 (gq gb);rw [show W1.alloc (.cells (gq gb).toArray 67)=W2 from hW.symm];obtain ⟨P,hP⟩: ∃P,P=W1.heap.size:=⟨_,rfl⟩;rw [←hP]at A2⊢;have HU:=ae A2;have dC:=ae x2
 clear hW x2 A2 hP;iterate 13 go_step
 obtain ⟨W3,hW,x3,Z3,A0,A1,A2⟩:=ik W2 3 [i64 0] 3 [i64 15] 74 [.string {data:= #[97]},.slice (some ⟨W2.heap.size+1,0,none⟩) 1 1,i64 0];rw [show((W2.alloc (.cells #[i64 0] 3)).alloc (.cells #[i64 15] 3)).alloc (.cells #[.string {data:= #[97]},.slice (some ⟨W2.heap.size+1,0,none⟩) 1 1,i64 0] 74)=W3 from hW.symm];obtain ⟨rb,xR⟩: ∃rb,rb=W2.heap.size:=⟨_,rfl⟩;obtain ⟨db,Hv⟩: ∃db,db=rb+1:=⟨_,rfl⟩;obtain ⟨bb,Od⟩: ∃bb,bb=rb+2:=⟨_,rfl⟩;rw [←xR]at A0 A1 A2⊢;rw [←Hv]at A1 A2⊢;rw [←Od]at A2;first|rw [←Od]|rw [show db+1=bb by omega]
 have hg1:=Zp.out.lt;have hg2:=dC.out.size
 have MO:Hid (gb<rb∧rb<db∧db<bb):=by(show _∧_∧_;omega)
 have jY:=ae x3;have HR:=ae A0;have HD:=ae A1;have kr:=ae A2
 replace HU:=ae (HU.out.ext x3);clear hW x3 Z3 A0 A1 A2 xR Hv Od hg1 hg2;have qh: ∀j v,(gq gb)[j]?=some v→W3.cell? ((⟨P,0,none⟩:Addr).add j)=some v:=fun j v hj=>by rw [dP,HU.out.cell j];exact hj
 refine aQ rfl 67 _ rfl ⟨P,0,none⟩ rfl (gq gb) _ qh rfl rfl (by kernel_rfl) ?_;refine gL rfl 27 _ rfl 67 (.agg jb.cells.toArray) 22 216 Tryz.underlying27 Tryz.info_unitE (by decide) (by decide) (gq gb) rfl rfl ?_;intro W4 Hj x4;obtain ⟨ub,Oc⟩: ∃ub,ub=W3.heap.size:=⟨_,rfl⟩;rw [←Oc]at Hj⊢;have hb4:=kr.out.lt;have MA:Hid (bb<ub∧P<W4.heap.size):=by(have:=(HU.out.ext x4).lt;show _∧_;omega)
 have HN:=ae Hj;have nK:=ae x4
 clear qh Hj x4 Oc hb4;go_upto_region 3 with(refine bD rfl 32 _ _ rfl jc.cells (jT rb bb ub) rfl rfl (by kernel_rfl) rfl rfl ?_)
 obtain ⟨W5,hW,x5,-,A5⟩:=aB W4 32 (jT rb bb ub);rw [show W4.alloc (.cells (jT rb bb ub).toArray 32)=W5 from hW.symm];obtain ⟨Q,hQ⟩: ∃Q,Q=W4.heap.size:=⟨_,rfl⟩;rw [←hQ]at A5⊢
 have Eg:Hid (ub<Q∧S<Q∧C<Q):=by
  have h1:=HN.out.lt;have h2:=HS.out.lt;have h3:=eK.out.size;have h4:=dC.out.size;have h5:=jY.out.size;have h6:=nK.out.size;have h7:=JK.out
  show _∧_∧_;omega
 have HQ:=ae A5;have su:=ae x5;have qc:=ae A5.lt
 have kp:=ae (fun U=>BZ U (.slice (some ⟨rb,0,none⟩) 1 1) (.slice none 0 0) (some ⟨bb,0,none⟩) none (some ⟨ub,0,none⟩) none none 1 0 1 0 0);have Rq:=A5.adds;clear hW x5 A5 hQ;go_wp2_with (first|(refine aQ rfl 32 _ rfl ⟨Q,0,none⟩ rfl (jT rb bb ub) _ Rq rfl rfl (by kernel_rfl) ?_))
 refine (kp.out W5).mono ?_;rintro e W6 ⟨ga,gc,v2,rfl,⟨row,hrow⟩,hv2,x6⟩;clear Rq kp;obtain ⟨g,p0,p1,p2,sp,rfl,Zq,hG⟩:=Hu hrow;have Hw:=ae hv2;have HG:=ae hG
 have CA:Hid (W5.heap.size≤g∧g<W6.heap.size):=⟨Zq,hG.lt⟩;have AV:=ae x6;clear hrow hv2 Zq hG x6;go_upto_region 4 with(refine bD rfl 153 _ _ rfl jn [.slice (some ⟨g,0,none⟩) 1 gc,.slice none 0 0,.slice none 0 0,.slice none 0 0,.slice none 0 0,v2,.slice none 0 0,.slice none 0 0] rfl rfl (by kernel_rfl) rfl (by simp only [List.all_cons,List.all_nil,Hw.out];rfl) ?_)
 obtain ⟨W7,hW,x7,-,A7⟩:=aB W6 153 [.slice (some ⟨g,0,none⟩) 1 gc,.slice none 0 0,.slice none 0 0,.slice none 0 0,.slice none 0 0,v2,.slice none 0 0,.slice none 0 0];rw [show W6.alloc (.cells #[.slice (some ⟨g,0,none⟩) 1 gc,.slice none 0 0,.slice none 0 0,.slice none 0 0,.slice none 0 0,v2,.slice none 0 0,.slice none 0 0] 153)=W7 from hW.symm];obtain ⟨Sb,Zr⟩: ∃Sb,Sb=W6.heap.size:=⟨_,rfl⟩;rw [←Zr]at A7 CA⊢;have HB:=ae A7;have ID:=ae (AV.out.trans x7)
 replace HG:=ae (HG.out.ext x7);have IW:Hid (g≠Sb∧W5.heap.size≤Sb):=by(have:=CA.out;show _∧_;omega)
 clear hW x7 A7 Zr;have Ag:Hid (∀U,Calls Tryz.prog 67 #[i64 15] U fun e w'=> ∃(s:Bool) (a:Option Addr) (k c:Nat) (b:Option Addr) (j d:Nat),e= .returned (.agg #[.bool s,.slice a k c,.slice b j d])∧Ext U w'):=fun U=>(BU U 15 (by decide) (by decide)).mono fun e w' ⟨_,_,_,_,h,_,_,_,_,hx⟩=>⟨_,_,_,_,_,_,_,h,hx⟩;have HZE:Hid (∀U,Calls Tryz.prog 73 #[] U fun e w'=> ∃(s:Bool) (a:Option Addr) (k c:Nat) (b:Option Addr) (j d:Nat),e= .returned (.agg #[.bool s,.slice a k c,.slice b j d])∧Ext U w'):=fun U=>(xu U).mono fun e w' ⟨_,_,_,_,h,_,_,_,_,hx⟩=>⟨_,_,_,_,_,_,_,h,hx⟩
 refine pQ [some 17,some 18,some 19,some 20,some 21,some 22,some 23,some 24] (fun i v _=>match i with
  |0=>v= .pointer (some ⟨Sb,0,none⟩)
  |1=>v= .slice (some ⟨g,0,none⟩) 1 gc
  |3|5=> ∃(s:Bool) (a:Option Addr) (k c:Nat) (b:Option Addr) (j d:Nat),v= .agg #[.bool s,.slice a k c,.slice b j d]
  |7=> ∃B C D:Nat,v= .agg #[.slice (some ⟨B,0,none⟩) 1 1,.slice (some ⟨C,0,none⟩) 1 1,.slice (some ⟨D,0,none⟩) 1 1]
  |_=> ∃B:Nat,v= .slice (some ⟨B,0,none⟩) 1 1) (fun w=>Ext W7 w) (fun f=>by simp only [nH,sS,Act.put];rfl) (by kernel_rfl) (by kernel_rfl) (by decide) (by rfl) (fun _ _ _ _ _ h=>h) (Ext.refl W7).drew ?step ?rest
 case step=>
  refine er.take rfl (fun f w hG hd=>⟨.pointer (some ⟨Sb,0,none⟩),by go_simp,rfl⟩) (er.take rfl (fun f w hG hd=>⟨.slice (some ⟨g,0,none⟩) 1 gc,?_,rfl⟩) (er.cons rfl (fun f w hG hd K hK=> ?_) (er.cons rfl (fun f w hG hd K hK=> ?_) (er.cons rfl (fun f w hG hd K hK=> ?_) (er.cons rfl (fun f w hG hd K hK=> ?_) (er.cons rfl (fun f w hG hd K hK=> ?_) (er.take rfl (fun f w hG hd=> ?_) er.nil)))))))
  ·have e0:w.cell? ⟨Sb,0,none⟩=some (.slice (some ⟨g,0,none⟩) 1 gc):=((HB.out.ext hG).cell 0).trans rfl
   have d0:f 0= .pointer (some ⟨Sb,0,none⟩):=hd ⟨0,.data⟩ (by simp) rfl;go_simp
  ·go_simp
   obtain ⟨Y,hW,xa,-,-⟩:=aB w 3 [i64 2];rw [show w.alloc (.cells #[i64 2] 3)=Y from hW.symm];exact hK.out _ _ (hG.trans xa) ⟨_,rfl⟩ (fun _ _ _ _ h=>h)
  ·go_simp
   refine (Ag.out w).mono ?_;rintro e Y ⟨s,a,k,c,b,j,d,rfl,xa⟩;exact hK.out _ _ (hG.trans xa) ⟨_,_,_,_,_,_,_,rfl⟩ (fun _ _ _ _ h=>h)
  ·obtain ⟨s,a,k,c,b,j,d,d3⟩: ∃(s:Bool) (a:Option Addr) (k c:Nat) (b:Option Addr) (j d:Nat),f 3= .agg #[.bool s,.slice a k c,.slice b j d]:=hd ⟨3,.data⟩ (by simp) rfl
   refine cH 122 (.tmp 20) rfl 119 (.agg kS.toArray) 3 56 Tryz.underlying122 Tryz.info_rat (by decide) (by decide) [.bool s,.slice a k c,.slice b j d] d3 rfl ?_;intro Y _ xa;exact hK.out _ _ (hG.trans xa) ⟨_,rfl⟩ (fun _ _ _ _ h=>h)
  ·go_simp
   refine (HZE.out w).mono ?_;rintro e Y ⟨s,a,k,c,b,j,d,rfl,xa⟩;exact hK.out _ _ (hG.trans xa) ⟨_,_,_,_,_,_,_,rfl⟩ (fun _ _ _ _ h=>h)
  ·obtain ⟨s,a,k,c,b,j,d,d3⟩: ∃(s:Bool) (a:Option Addr) (k c:Nat) (b:Option Addr) (j d:Nat),f 5= .agg #[.bool s,.slice a k c,.slice b j d]:=hd ⟨5,.data⟩ (by simp) rfl
   refine cH 122 (.tmp 22) rfl 119 (.agg kS.toArray) 3 56 Tryz.underlying122 Tryz.info_rat (by decide) (by decide) [.bool s,.slice a k c,.slice b j d] d3 rfl ?_;intro Y _ xa;exact hK.out _ _ (hG.trans xa) ⟨_,rfl⟩ (fun _ _ _ _ h=>h)
  ·obtain ⟨B,d2⟩: ∃B:Nat,f 2= .slice (some ⟨B,0,none⟩) 1 1:=hd ⟨2,.data⟩ (by simp) rfl
   obtain ⟨C,d4⟩: ∃B:Nat,f 4= .slice (some ⟨B,0,none⟩) 1 1:=hd ⟨4,.data⟩ (by simp) rfl;obtain ⟨D,d6⟩: ∃B:Nat,f 6= .slice (some ⟨B,0,none⟩) 1 1:=hd ⟨6,.data⟩ (by simp) rfl;exact ⟨.agg #[.slice (some ⟨B,0,none⟩) 1 1,.slice (some ⟨C,0,none⟩) 1 1,.slice (some ⟨D,0,none⟩) 1 1],by go_simp,_,_,_,rfl⟩
 intro f w hG hD;have d1:f 1= .slice (some ⟨g,0,none⟩) 1 gc:=hD 1 (by decide);obtain ⟨B1,B2,B3,d7⟩: ∃B C D:Nat,f 7= .agg #[.slice (some ⟨B,0,none⟩) 1 1,.slice (some ⟨C,0,none⟩) 1 1,.slice (some ⟨D,0,none⟩) 1 1]:=hD 7 (by decide);clear hD;refine k9 (S:=fun _=>True) (R:=fun _=>True) (Z:=fun _=>false) _ _ _ _ ?_;refine av 8 (.pointer (some ⟨g,0,none⟩)) rfl trivial trivial ?_;try simp only [sS,Act.put]
 refine cG 9 rfl (fun Kc hK=> ?_);have ND:=HG.out.ext hG;have c0:=ND.cell 0;have c1:=ND.cell 1;have c2:=ND.cell 2
 have f0:=ND.frozen 0;have f1:=ND.frozen 1;have f2:=ND.frozen 2
 simp only [List.getElem?_cons_zero,List.getElem?_cons_succ]at c0 c1 c2;go_simp;refine hK.out _ _ trivial trivial (fun _ _=> ?_);refine ax (by kernel_rfl) ?_ _;have mb:=(((ak.refl g w).et (o:=0) (v:= .slice (some ⟨B1,0,none⟩) 1 1)).et (o:=1) (v:= .slice (some ⟨B2,0,none⟩) 1 1)).et (o:=2) (v:= .slice (some ⟨B3,0,none⟩) 1 1);have xc:Ext W5 _:=mb.ext (ID.out.trans hG) CA.out.1;have hB:=(HB.out.ext hG).but mb IW.out.1.symm;clear mb ND c0 c1 c2 f0 f1 f2 hG;generalize ((w.setCell ⟨g,0,none⟩ (.slice (some ⟨B1,0,none⟩) 1 1)).setCell ⟨g,1,none⟩ (.slice (some ⟨B2,0,none⟩) 1 1)).setCell ⟨g,2,none⟩ (.slice (some ⟨B3,0,none⟩) 1 1)=W8 at*;have JN:=ae xc;replace HB:=ae hB
 replace HQ:=ae (HQ.out.ext xc)
 have nE:Hid (aG W8 C 32 jc.cells∧aG W8 S 153 jn):=by
  have e8:Ext W0 W8:=eK.out.trans (dC.out.trans (jY.out.trans (nK.out.trans (su.out.trans xc))));exact ⟨HC.out.ext e8,HS.out.ext e8⟩
 have Hx:Hid (Ext W1 W8∧Ext W3 W8∧Ext W4 W8∧Ext V W8):=by
  have e5:Ext W4 W8:=su.out.trans xc;have e3:Ext W3 W8:=nK.out.trans e5;have e1:Ext W1 W8:=dC.out.trans (jY.out.trans e3);exact ⟨e1,e3,e5,HX.out.trans (eK.out.trans e1)⟩
 clear xc hB ID HG AV JN HC HS;go_upto_region 5 with fail
 refine ay (fun w'=>aG w' Q 32 (jT rb bb ub)∧aG w' Sb 153 [.slice (some ⟨g,0,none⟩) 1 gc,.slice none 0 0,.slice none 0 0,.slice none 0 0,.slice none 0 0,v2,.slice none 0 0,.slice none 0 0]) (fun w'=>True) (fun i=>false) (by kernel_rfl) (⟨HQ.out,HB.out⟩) (trivial) (fun ar ah=> ?_);refine av 0 (.agg (jT rb bb ub).toArray) rfl ar ah ?_ (by rintro w ⟨e0,e1⟩;exact cR 32 (.tmp 3) rfl ⟨Q,0,none⟩ rfl _ _ e0.adds rfl rfl (by kernel_rfl));simp only [sS];refine av 1 (.agg #[.slice (some ⟨g,0,none⟩) 1 gc,.slice none 0 0,.slice none 0 0,.slice none 0 0,.slice none 0 0,v2,.slice none 0 0,.slice none 0 0]) rfl ar ah ?_ (by rintro w ⟨e0,e1⟩;exact cR 153 (.tmp 4) rfl ⟨Sb,0,none⟩ rfl _ _ e1.adds rfl rfl (by kernel_rfl));simp only [sS];obtain ⟨Y0,qJ⟩: ∃Y0,Y0=W8.drew:=⟨_,rfl⟩;have hd:Ext W8 Y0:=by rw [qJ];exact (Ext.refl W8).drew
 rw [←qJ];replace nE:Hid (aG Y0 C 32 jc.cells∧aG Y0 S 153 jn):=⟨nE.out.1.ext hd,nE.out.2.ext hd⟩;replace Hx:Hid (Ext W1 Y0∧Ext W3 Y0∧Ext W4 Y0∧Ext V Y0):=⟨Hx.out.1.trans hd,Hx.out.2.1.trans hd,Hx.out.2.2.1.trans hd,Hx.out.2.2.2.trans hd⟩;replace HQ:=ae (HQ.out.ext hd);replace HB:=ae (HB.out.ext hd)
 clear hd qJ;refine cG 2 rfl (fun Kc hK=> ?_);rw [if_pos (by rfl)];refine ew 32 (.tmp 0) (.tmp 26) rfl C jc.cells (jT rb bb ub) nE.out.1 rfl rfl (by kernel_rfl) rfl rfl ?_;intro Y1 hc1 hx1;have hne:Q≠C∧Sb≠C∧S≠C∧V.heap.size≤C:=by(have h1:=Eg.out;have h2:=IW.out;have h3:=JK.out;have h4:=qc.out;omega)
 replace HQ:=ae (HQ.out.but hx1 hne.1);replace HB:=ae (HB.out.but hx1 hne.2.1);have oX:=ae (nE.out.2.but hx1 hne.2.2.1);have KY:=ae hc1;have RR:=ae hx1
 clear hc1 hx1 hne nE;refine hK.out _ _ (⟨HQ.out,HB.out⟩) (trivial) (fun ar ah=> ?_);clear hK Kc;try simp only [sS]
 refine cG 3 rfl (fun Kc hK=> ?_);rw [if_pos (by rfl)];refine ew 153 (.tmp 1) (.tmp 27) rfl S jn [.slice (some ⟨g,0,none⟩) 1 gc,.slice none 0 0,.slice none 0 0,.slice none 0 0,.slice none 0 0,v2,.slice none 0 0,.slice none 0 0] oX.out rfl rfl (by kernel_rfl) rfl (by simp only [List.all_cons,List.all_nil,Hw.out];rfl) ?_;intro Y2 hs2 hx2;have hne:Q≠S∧Sb≠S∧C≠S∧V.heap.size≤S:=by(have h1:=Eg.out;have h2:=IW.out;have h3:=JK.out;have h4:=qc.out;omega)
 replace HQ:=ae (HQ.out.but hx2 hne.1);replace HB:=ae (HB.out.but hx2 hne.2.1);replace KY:=ae (KY.out.but hx2 hne.2.2.1);have nX:=ae hs2;have RS:=ae hx2
 clear hs2 hx2 hne oX;refine hK.out _ _ (⟨HQ.out,HB.out⟩) (trivial) (fun ar ah=> ?_);clear hK Kc;try simp only [sS]
 refine ax (by kernel_rfl) ?_ _;clear ar ah
 have OL:Hid (Ext V Y2∧aG Y2 gb 138 [i64 10,i64 2]∧aG Y2 rb 3 [i64 0]∧aG Y2 db 3 [i64 15]∧aG Y2 bb 74 [.string {data:= #[97]},.slice (some ⟨db,0,none⟩) 1 1,i64 0]∧aG Y2 ub 67 (gq gb)):=by
  have h1:=JK.out;have h2:=OJ.out;have h3:=MO.out;have h4:=MA.out
  have hb: ∀b T cs,aG Y0 b T cs→S<b→aG Y2 b T cs:=fun b T cs h hs=>(h.but RR.out (by omega)).but RS.out (by omega);have e0:=HX.out.size;refine ⟨RS.out.ext (RR.out.ext Hx.out.2.2.2 (by omega)) (by omega),hb _ _ _ (Zp.out.ext Hx.out.1) ?_,hb _ _ _ (HR.out.ext Hx.out.2.1) ?_,hb _ _ _ (HD.out.ext Hx.out.2.1) ?_,hb _ _ _ (kr.out.ext Hx.out.2.1) ?_,hb _ _ _ (HN.out.ext Hx.out.2.2.1) ?_⟩<;>omega
 go_wp2_with fail
 exact bodyPost_ret (v:= .tuple #[.agg (jT rb bb ub).toArray,.agg #[.slice (some ⟨g,0,none⟩) 1 gc,.slice none 0 0,.slice none 0 0,.slice none 0 0,.slice none 0 0,v2,.slice none 0 0,.slice none 0 0]]) (xE 0 1 _ _ rfl rfl rfl KY.out nX.out rfl rfl rfl rfl (by kernel_rfl) (by kernel_rfl)) rfl ⟨gb,rb,db,bb,ub,_,rfl,rfl,by simp only [List.all_cons,List.all_nil,Hw.out];rfl,by(have h1:=JK.out;have h2:=OJ.out;have h3:=MO.out;have h4:=MA.out;have h5:=HX.out.size;omega),OL.out.2.1,OL.out.2.2.1,OL.out.2.2.2.1,OL.out.2.2.2.2.1,OL.out.2.2.2.2.2,OL.out.1⟩
def OM (nm:ByteArray) (mn mx:Int) (sg:Value):List Value:= [.string nm,i64 0,i64 mn,i64 mx,sg,i64 7,i64 20,i64 20,i64 20,i64 20,i64 1,i64 1,i64 0,i64 0,i64 0,i64 1,i64 0,i64 0,.slice none 0 0,i64 2,i64 1,i64 15]
structure EW (V:World) (X R U D:Nat) (x0:aq) (IX:List Value) (ga:Option Addr) (gc:Nat) (us:List aF) (W:World):Prop where
 bK:aG W X 32 {x0 with ua:=ga,uc:=gc,aj:=us}.cells
 res:aG W R 32 jc.cells
 u:aG W U 67 IX
 ext:Ext V W
 case':aT W x0
 old:dv (fun b=>V.heap.size≤b∧b<D∧b≠X∧b≠U∧b≠R) x0
 own:aH W D 67 22 (.slice ga us.length gc) (us.map aF.cells)
 aI: ∀x∈us,bP W 2 x.sa x.sc (x.aI.map cL.cells)∧ ∀p,x.sa=some p→D≤p.block∧p.block<W.heap.size∧ ∀q,ga=some q→p.block≠q.block
 lo:V.heap.size≤X∧V.heap.size≤R∧V.heap.size≤U∧X<D∧R<D∧U<D∧X≠R∧X≠U∧R≠U∧D≤W.heap.size
theorem EW.grow {V W W':World} {X R U D:Nat} {x0:aq} {IX:List Value} {ga:Option Addr} {gc:Nat} {us:List aF} (h:EW V X R U D x0 IX ga gc us W) (hx:Ext W W'):EW V X R U D x0 IX ga gc us W':=by
 have hs:=hx.size;have hl:=h.lo;exact ⟨h.bK.ext hx,h.res.ext hx,h.u.ext hx,h.ext.trans hx,h.case'.ext hx,h.old,h.own.ext hx,fun x hm=>⟨(h.aI x hm).1.ext hx,fun p hp=>⟨((h.aI x hm).2 p hp).1,by have:=((h.aI x hm).2 p hp).2.1;omega,((h.aI x hm).2 p hp).2.2⟩⟩,by omega⟩
theorem EW.Kf {V W:World} {X R U D:Nat} {x0:aq} {IX:List Value} {ga:Option Addr} {gc:Nat} {us:List aF} (h:EW V X R U D x0 IX ga gc us W) (j:Nat) (v:Value):EW V X R U D x0 (IX.set j v) ga gc us (W.setCell ⟨U,j,none⟩ v):=by
 have hl:=h.lo;have hx:=(ak.refl U W).et (o:=j) (v:=v);have hs:=hx.size
 exact ⟨h.bK.but hx (by omega),h.res.but hx (by omega),h.u.set j v,hx.ext h.ext hl.2.2.1,h.case'.but hx (h.old.mono fun b hb=>by omega),h.old,h.own.but hx hl.2.2.2.2.2.1,
  fun x hm=>⟨(h.aI x hm).1.but hx (fun p hp=>by have:=((h.aI x hm).2 p hp).1;omega),fun p hp=>⟨((h.aI x hm).2 p hp).1,by have:=((h.aI x hm).2 p hp).2.1;omega,((h.aI x hm).2 p hp).2.2⟩⟩,by omega⟩
theorem EW.push {V W w5:World} {X R U D:Nat} {x0:aq} {IX:List Value} {ga:Option Addr} {gc:Nat} {us:List aF} (h:EW V X R U D x0 IX ga gc us W) {v1:Value} {x:aF}
 (ho:w5.ownsRow D 67 22 v1 (us.length+1) ((us.map aF.cells).flatten++x.cells)) (he: ∀a0,Ext a0 W→a0.heap.size≤D→Ext a0 w5) (hb: ∀k,k<W.heap.size→some k≠Value.ownBlock (.slice ga us.length gc)→w5.heap[k]?=W.heap[k]?) (hz:W.heap.size≤w5.heap.size)
 (hv:v1.ownBlock=Value.ownBlock (.slice ga us.length gc)∨ ∃g,v1.ownBlock=some g∧W.heap.size≤g)
 (hs:bP W 2 x.sa x.sc (x.aI.map cL.cells)∧ ∀p,x.sa=some p→D≤p.block∧p.block<W.heap.size∧ ∀q,ga=some q→p.block≠q.block):
 ∃g2 k2,v1= .slice g2 (us.length+1) k2∧aG w5 X 32 {x0 with ua:=ga,uc:=gc,aj:=us}.cells∧EW V X R U D x0 IX g2 k2 (us++ [x]) (w5.setCell ⟨X,4,none⟩ (.slice g2 (us.length+1) k2)):=by
 obtain ⟨g2,k2,rfl⟩:=fc ho;have hl:=h.lo;obtain ⟨K,M_,EZ,hKx⟩:=gS (base:=D) (v:= .slice ga us.length gc) hl.2.2.2.2.2.2.2.2.2 (fun k q=>(h.own.own.lt k q).1) he hb hz
 have JV:K=W.heap.size∨ ∃q,ga=some q∧q.block=K:=by
  rcases EZ with q|q
  ·exact .inl q
  ·cases ga with
   |none=>cases q
   |some q'=>exact .inr ⟨q',rfl,by have e2:some q'.block=some K:=q;cases e2;rfl⟩
 have zq: ∀p:Addr,p.block<W.heap.size∧(∀q,ga=some q→p.block≠q.block)→p.block≠K:=fun p hp=>by
  rcases JV with q|⟨q,q1,q2⟩
  ·omega
  ·have:=hp.2 q q1;omega
 have hne:X≠K∧R≠K∧U≠K∧V.heap.size≤K:=by clear JV EZ zq;omega
 clear JV EZ
 have hg2: ∀q,g2=some q→(∃q0,ga=some q0∧q.block=q0.block)∨W.heap.size≤q.block:=fun q hq=>by
  subst hq;rcases hv with e1|⟨g,e1,e2⟩
  ·cases ga with
   |none=>cases e1
   |some q'=>exact .inl ⟨q',rfl,by have e3:some q.block=some q'.block:=e1;exact Option.some.inj e3⟩
  ·have e3:some q.block=some g:=e1
   cases e3;exact .inr e2
 have hs5:=hKx.size;have hx:=((ak.refl X w5).et (o:=4) (v:= .slice g2 (us.length+1) k2));have Cn:=hx.size;have hA:=h.bK.but hKx hne.1;have hlen:(us++ [x]).length=us.length+1:=by simp
 refine ⟨g2,k2,rfl,hA,?_,(h.res.but hKx hne.2.1).but hx (by omega),(h.u.but hKx hne.2.2.1).but hx (by omega),hx.ext (hKx.ext h.ext hne.2.2.2) hl.1,
  (h.case'.but hKx (h.old.mono fun b hb=>by omega)).but hx (h.old.mono fun b hb=>by omega),h.old,?_,fun y hm=> ?_,by omega⟩
 ·have h5:=hA.set 4 (.slice g2 (us.length+1) k2)
  have e:({x0 with ua:=ga,uc:=gc,aj:=us}:aq).cells.set 4 (.slice g2 (us.length+1) k2)=({x0 with ua:=g2,uc:=k2,aj:=us++ [x]}:aq).cells:=by rw [←hlen];rfl
  rw [e]at h5;exact h5
 ·have h5:=(h.own.snoc (w':=w5) (r:=x.cells) rfl (by rw [List.length_map];exact ho)).but hx hl.2.2.2.1
  rw [hlen,List.map_append];exact h5
 ·have h5:bP W 2 y.sa y.sc (y.aI.map cL.cells)∧ ∀p,y.sa=some p→D≤p.block∧p.block<W.heap.size∧ ∀q,ga=some q→p.block≠q.block:=by
   rcases List.mem_append.1 hm with h6|h6
   ·exact h.aI y h6
   ·rw [List.mem_singleton]at h6;subst h6;exact hs
  refine ⟨(h5.1.but hKx fun p hp=>zq p (h5.2 p hp).2).but hx fun p hp=>by have:=(h5.2 p hp).1;omega,fun p hp=>⟨(h5.2 p hp).1,by have:=(h5.2 p hp).2.1;omega,fun q hq=> ?_⟩⟩;rcases hg2 q hq with⟨q0,h7,h8⟩|h7
  ·have:=(h5.2 p hp).2.2 q0 h7;omega
  ·have:=(h5.2 p hp).2.1;omega
theorem Eo {W:World} {D:Nat} {us:List aF} {ga:Option Addr} {gc:Nat} (ho:aH W D 67 22 (.slice ga us.length gc) (us.map aF.cells)):bP W 22 ga gc (us.map aF.cells):=by
 obtain ⟨a,c,e,h,-⟩:=ho.recs (by decide);rw [List.length_map]at e;simp only [Value.slice.injEq]at e;obtain ⟨rfl,-,rfl⟩:=e;exact h
end Go.Proofs.YtkpngkdgphojlaaGreat
