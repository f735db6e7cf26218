/- Texts of the proof. -/
import Derived.Laws.Rows
import Derived.Deep.WholeRow
import Derived.Test.YtbnamicbjaaelaaGreatCg9
set_option linter.all false
namespace Go.Proofs.YtbnamicbjaaelaaGreat
open Go.Proofs.Tryz
open Go.RowKit
section
variable{P:Program}
theorem f_ (w:World) (p:Addr) (ty:TypeId) (cs:List Value) (d:TypeDesc) (hc: ∀j v,cs[j]?=some v->w.cell? (p.add j)=some v)
 (hu:P.underlying ty=some d) (hd:(match d with| .struct _| .array _ _=>true|_=>false)=true) (hi:(P.info? ty).map (·.size)=some cs.length):
 (loadVar ty p).run P w= .ok (.agg cs.toArray) w:=by
 have hl:(loadCells p cs.length).run P w= .ok cs.toArray w:=run_loadCells_list (P:=P) w p cs hc;cases hq:P.info? ty with
 |none=>simp [hq]at hi
 |some i=>
  have hs:i.size=cs.length:=by simpa [hq]using hi
  have hagg:(isAgg ty).run P w= .ok true w:=by
   unfold isAgg;rw [Sem.run_bind,run_underlying hu w];cases d<;>simp_all
  simp [loadVar,Sem.run_bind,hagg,sizeOf,typeInfo,hq,hs,hl]
theorem br {ops:Array Oper} {rest:List Oper} {o:Oper} {a:Act} {w:World} {Q:Exit->Act->World->Prop} (hgd:o.guard=none) (ty:TypeId) (x:Operand) (ho:o.op= .load ty x)
 (p:Addr) (hx:a.eval x= .pointer (some p)) (cs:List Value) (d:TypeDesc) (hc: ∀j v,cs[j]?=some v->w.cell? (p.add j)=some v)
 (hu:P.underlying ty=some d) (hd:(match d with| .struct _| .array _ _=>true|_=>false)=true) (hi:(P.info? ty).map (·.size)=some cs.length)
 (h:wpList P ops Q rest (a.put o.dst (.agg cs.toArray)) w):wpList P ops Q (o::rest) a w:=
 wpList_plain hgd λK hK=>by
  unfold Oper.wp execOp;simp only [ho,hx,Instr.loadAt,Instr.sureAddr,Sem.run_bind,Sem.run_pure,Result.andThen_ok,f_ w p ty cs d hc hu hd hi];exact hK _ _ h
theorem bP {ops:Array Oper} {rest:List Oper} {o:Oper} {a:Act} {w:World} {Q:Exit->Act->World->Prop} (hgd:o.guard=none) (ty:TypeId) (x y:Operand) (ho:o.op= .store ty x y)
 (cs cs':List Value) (hx:a.eval x= .pointer (some ⟨w.heap.size,0,none⟩)) (hy:a.eval y= .agg cs'.toArray) (hi:(P.info? ty).map (·.size)=some cs'.length) (hold:cs.length=cs'.length) (h1:cs'.all (·.oneCell')=true)
 (h:wpList P ops Q rest (a.put o.dst undef) (w.alloc (.cells cs'.toArray ty))):wpList P ops Q (o::rest) a (w.alloc (.cells cs.toArray ty)):=
 wpList_plain hgd λK hK=>by
  have hr:=run_storeAt_new (P:=P) w ty cs.toArray cs'.toArray (by simpa using hi) (by simpa using hold) (by simpa using h1);unfold Oper.wp execOp;simp only [ho,hx,hy,Sem.run_bind,hr,Result.andThen_ok,Sem.run_pure];exact hK _ _ h
end
theorem aT.adds {w:World} {b:Nat} {T:TypeId} {vs:List Value} (h:aT w b T vs): ∀j v,vs[j]?=some v->w.cell? (Addr.add ⟨b,0,none⟩ j)=some v:=λj v hv=>by
 have e:(Addr.add ⟨b,0,none⟩ j)=⟨b,j,none⟩:=by unfold Addr.add;split<;>simp_all
 rw [e,h.cell j];exact hv
theorem ct.adds {w:World} {m:Nat} {a:Option Addr} {c:Nat} {rows:List (List Value)} (h:ct w m a c rows) (i:Nat) (hi:i<rows.length): ∃b o,a=some ⟨b,o,none⟩/\ ∀j v,(rows[i])[j]?=some v->w.cell? (Addr.add ⟨b,o+i*m,none⟩ j)=some v:=by
 obtain ⟨b,o,ha,hc⟩:=h.cell i hi;refine ⟨b,o,ha,λj v hv=> ?_⟩;obtain ⟨hj,rfl⟩:=List.getElem?_eq_some_iff.1 hv;have e:(Addr.add ⟨b,o+i*m,none⟩ j)=⟨b,o+i*m+j,none⟩:=by unfold Addr.add;split<;>simp_all
 rw [e];exact hc j hj
def Cs (w:World) (b o:Nat):Nat->List Value->Prop
 |_,[]=>True
 |j,v::l=>w.cell? ⟨b,o+j,none⟩=some v/\Cs w b o (j+1) l
theorem Cs.of {w:World} {b o:Nat}: ∀{l:List Value} {j:Nat},(∀i v,l[i]?=some v->w.cell? ⟨b,o+(j+i),none⟩=some v)->Cs w b o j l
 | [],_,_=>trivial
 |v::l,j,h=>⟨h 0 v rfl,Cs.of λi u e=>by have:=h (i+1) u e;rwa [show j+1+i=j+(i+1) by omega]⟩
theorem aT.cs {w:World} {b:Nat} {T:TypeId} {vs:List Value} (h:aT w b T vs):Cs w b 0 0 vs:=
 Cs.of λi v e=>by rw [show 0+(0+i)=i by omega,h.cell];exact e
theorem ct.cs {α:Type} {f:α->List Value} {l:List α} {w:World} {m:Nat} {a:Option Addr} {c:Nat} (h:ct w m a c (l.map f)) (i:Nat) (hi:i<l.length): ∃b o,a=some ⟨b,o,none⟩/\Cs w b (o+i*m) 0 (f l[i]):=by
 obtain ⟨b,o,ha,hc⟩:=h.cell i (by simpa using hi);simp only [List.getElem_map]at hc;refine ⟨b,o,ha,Cs.of λj v e=> ?_⟩;obtain ⟨hj,rfl⟩:=List.getElem?_eq_some_iff.1 e;rw [Nat.zero_add];exact hc j hj
theorem ct.cs' {α:Type} {f:α->List Value} {l:List α} {w:World} {m b o:Nat} {c:Nat} (h:ct w m (some ⟨b,o,none⟩) c (l.map f)) (i:Nat) (hi:i<l.length):Cs w b (o+i*m) 0 (f l[i]):=by
 obtain ⟨b',o',e,q⟩:=h.cs i hi;cases e;exact q
theorem aT.eH {K:Nat} {w w':World} {b:Nat} {T:TypeId} {vs:List Value} (h:aT w b T vs) (e:aB K w w') (hb:b≠K):aT w' b T vs:=by
 unfold aT;rw [e.block b h.lt hb];exact h
theorem bV {w W:World} {T:TypeId} {cs:List Value} (h:w.alloc (.cells cs.toArray T)=W): ∃E,E=w.heap.size/\Ext w W/\aT W E T cs:=by
 subst h;exact ⟨_,rfl,ar.alloc _,aT.alloc _ _ _⟩
theorem aT.Oh {w:World} {b:Nat} {x:Int} (h:aT w b 3 [i64 x]) (hx:b_ x):aS w (some ⟨b,0,none⟩) 1 [x]:=
 ⟨aG,ae,λi hi=>⟨b,0,rfl,by
   obtain rfl:i=0:=by simpa using hi
   exact (h.cell 0).trans rfl⟩,λi hi=>by
   obtain rfl:i=0:=by simpa using hi
   exact hx⟩
theorem Dp {α:Type} (f:α->ByteArray) (l:List α) (i:Nat) (h:i<l.length): ∃prev,prev=(l.take i).map f/\Hid (prev.length=i)/\ ∀j (hj:j<prev.length),∃h:j<l.length,prev[j]=f l[j]:=
 ⟨_,rfl,(show _=_ by simp;omega),λj hj=>⟨by simp at hj;omega,aG⟩⟩
theorem St.xt (s:St) (k i:Int) (h:(s.at k i).err=0):(s.at k i).idx=i:=by
 unfold St.at at h⊢;split
 .rfl
 .rename_i hne;rw [if_neg hne]at h;exact absurd h hne
def St.upTo {α:Type} (f:α->List ByteArray->Int->St->St) (g:α->ByteArray) (l:List α) (s:St) (n:Nat):St:=(List.range n).foldl (λs i=>match l[i]? with|some x=>f x ((l.take i).map g) i s|none=>s) s
theorem St.mM {α:Type} (f:α->List ByteArray->Int->St->St) (g:α->ByteArray) (l:List α) (s:St) (i:Nat) (h:i<l.length):St.upTo f g l s (i+1)=f l[i] ((l.take i).map g) i (St.upTo f g l s i):=by
 unfold St.upTo;rw [List.range_succ,List.foldl_append,List.foldl_cons,List.foldl_nil,List.getElem?_eq_getElem h]
open Go
section
variable{P:Program} {ops:Array Oper} {Q:Exit->Act->World->Prop} {md:Region.Mode}
def jc (ops:Array Oper) (m:Nat) (t:Tmp):Option Nat:=(List.range m).find? λi=>((ops[i]?).bind (·.dst))==some t
def eA (ops:Array Oper) (m:Nat) (c:Nat->Bool) (f:Nat->Value) (a:Act):Act:=
 {a with tmps:=a.tmps.mapIdx λt v=>match jc ops m t with|some i=>if c i then f i else v|none=>v}
def pF (md:Region.Mode) (ops:Array Oper) (m:Nat):Bool:=
 (List.range ops.size).all λi=>match ops[i]? with
   |none=>false
   |some o=>
    if i<m then o.guard.isNone&&(match o.op with| .select ..=>false|_=>true)&&o.after.all (λe=> !Region.binds md e||decide (e.on<i))&&
     (List.range m).all λk=>match ops[k]? with
       |none=>false
       |some ok=>match ok.dst with
        |none=>true
        |some d=>(k==i||o.dst !=some d)&&(!(o.looksAt ops).contains d||(o.after.any λe=>Region.binds md e&&e.on==k))
    else(List.range m).all λk=>o.after.any λe=>Region.binds md e&&e.on==k
theorem iF {m:Nat} {t:Tmp} {i:Nat} (h:jc ops m t=some i):i<m/\((ops[i]?).bind (·.dst))=some t:=by
 have h1:=List.mem_of_find?_eq_some h;have h2:=List.find?_some h;exact ⟨List.mem_range.1 h1,by simpa using h2⟩
theorem FI {m:Nat} {t:Tmp} {i:Nat} (hi:i<m) (h:((ops[i]?).bind (·.dst))=some t) (hd: ∀k,k<m->k≠i->((ops[k]?).bind (·.dst))≠some t):jc ops m t=some i:=by
 cases hq:jc ops m t with
 |none=>
  have:=List.find?_eq_none.1 hq i (List.mem_range.2 hi);simp [h]at this
 |some k=>
  obtain ⟨h1,h2⟩:=iF hq;by_cases hk:k=i
  .rw [hk]
  .exact absurd h2 (hd k h1 hk)
theorem uJ (m:Nat) (f:Nat->Value) (a:Act):eA ops m (λ_=>false) f a=a:=by
 unfold eA
 have:(a.tmps.mapIdx λt v=>match jc ops m t with|some i=>if(λ_=>false) i=true then f i else v|none=>v)=a.tmps:=by
  apply Array.ext
  .simp
  .intro i h1 h2
   simp only [Array.getElem_mapIdx];split<;>simp
 rw [this]
theorem Dq {m:Nat} {c c':Nat->Bool} {f:Nat->Value} {a:Act} {x:Operand} (h: ∀t k,x= .tmp t->jc ops m t=some k->c k=c' k):(eA ops m c f a).eval x=(eA ops m c' f a).eval x:=by
 cases x with
 |tmp t=>
  have ht:=h t;simp only [Act.eval,eA,Array.getD_eq_getD_getElem?,Array.getElem?_mapIdx];cases a.tmps[t]? with
  |none=>rfl
  |some v=>
   simp only [Option.map_some];cases hq:jc ops m t with
   |none=>rfl
   |some k=>simp only [ht k rfl hq]
 |_=>rfl
theorem xu {m i:Nat} {c:Nat->Bool} {f:Nat->Value} {a:Act} {o:Oper} {v:Value} (hi:i<m) (ho:ops[i]?=some o) (hd: ∀d,o.dst=some d-> ∀k,k<m->k≠i->((ops[k]?).bind (·.dst))≠some d):
 (eA ops m c f a).put o.dst v=eA ops m (λk=>c k||k==i) (λk=>if k=i then v else f k) a:=by
 cases Oi:o.dst with
 |none=>
  unfold eA Act.put;simp only;congr 1
  apply Array.ext
  .simp
  .intro t h1 h2
   simp only [Array.getElem_mapIdx];cases hq:jc ops m t with
   |none=>rfl
   |some k=>
    have hk:k≠i:=λe=>by
     have h3:=(iF hq).2;rw [e,ho]at h3;simp [Oi]at h3
    simp [hk]
 |some d=>
  unfold eA Act.put;simp only;congr 1
  apply Array.ext_getElem?;intro t;have hown:jc ops m d=some i:=FI hi (by rw [ho];exact Oi) (hd d Oi);by_cases ht:d=t
  .subst ht
   rw [Array.getElem?_setIfInBounds_self];simp only [Array.getElem?_mapIdx,Array.size_mapIdx,hown,beq_self_eq_true,Bool.or_true,if_true];by_cases hs:d<a.tmps.size
   .simp [hs]
   .simp [hs]
  .rw [Array.getElem?_setIfInBounds_ne ht]
   simp only [Array.getElem?_mapIdx];cases a.tmps[t]? with
   |none=>rfl
   |some u=>
    simp only [Option.map_some];cases hq:jc ops m t with
    |none=>rfl
    |some k=>
     have hk:k≠i:=λe=>by
      have h3:=(iF hq).2;rw [e,ho]at h3;rw [Option.bind_some,Oi]at h3;exact ht (Option.some.inj h3)
     simp [hk]
theorem Oj {a b:Act} (hs:a.tmps.size=b.tmps.size) {d:Option Tmp} {u v:Value} (e:b.put d u=b.put d v):a.put d u=a.put d v:=by
 cases d with
 |none=>rfl
 |some d=>
  by_cases h:d<b.tmps.size
  .have h1:(b.put (some d) u).tmps[d]?=(b.put (some d) v).tmps[d]?:=by rw [e]
   simp [Act.put,h]at h1;rw [h1]
  .have hd:a.tmps.size<=d:=by rw [hs];exact Nat.le_of_not_lt h
   simp [Act.put,Array.setIfInBounds_eq_of_size_le hd]
theorem Ry {o:Oper} {a b:Act} {w:World} {K:Act->World->Prop} {R:Value->World->Prop} (he:execOp a.eval o=execOp b.eval o) (hs:a.tmps.size=b.tmps.size) (yO:a.defers=b.defers) (hQ: ∀c t t' d w,Q (.panic c) ⟨t,d⟩ w->Q (.panic c) ⟨t',d⟩ w)
 (h:Oper.wp P o b w (λb' w'=> ∃v,b'=b.put o.dst v/\R v w') Q) (hK: ∀v w',R v w'->K (a.put o.dst v) w'):Oper.wp P o a w K Q:=by
 have hQ': ∀c w,Q (.panic c) b w->Q (.panic c) a w:=λc w h=>by
  cases a with
  |mk t d=>cases b with
   |mk t' d'=>cases yO;exact hQ _ _ _ _ _ h
 have Ok:=λu v e=>Oj (u:=u) (v:=v) hs (d:=o.dst) e;unfold Oper.wp at*;rw [he];generalize (execOp b.eval o).run P w=r at*;cases r with
 |ok n w'=>
  cases n<;>simp only [Oper.upon]at h⊢
  case value u=>
   obtain ⟨v,e,hr⟩:=h;rw [Ok u v e];exact hK v w' hr
  case skip=>
   obtain ⟨v,e,hr⟩:=h;rw [Ok undef v e];exact hK v w' hr
  case defer d=>
   obtain ⟨v,e,hr⟩:=h;have h1:({b with defers:=d::b.defers}.put o.dst undef).defers.length=(b.put o.dst v).defers.length:=by rw [e]
   exfalso;cases hd:o.dst<;>simp [Act.put,hd]at h1
  case enter f args=>
   refine Calls.mono h λe w'' U5=> ?_;cases e with
   |returned u=>
    obtain ⟨v,e,hr⟩:=U5;show K (a.put o.dst u) w'';rw [Ok u v e];exact hK v w'' hr
   |panicked c=>exact hQ' _ _ U5
   |outgrown=>exact U5
  case row row args=>
   refine Rows.mono h λu w'' U5=> ?_;obtain ⟨v,e,hr⟩:=U5;rw [Ok u v e];exact hK v w'' hr
 |halt x w'=>
  cases x<;>simp only [Oper.upon]at h⊢
  case panic u=>exact hQ' _ _ h
structure aaM (md:Region.Mode) (ops:Array Oper) (m i:Nat) (o:Oper):Prop where
 guard:o.guard=none
 sel: ∀cs b,o.op≠ .select cs b
 low: ∀e∈o.after,Region.binds md e=true->e.on<i
 dst: ∀d,o.dst=some d-> ∀k,k<m->k≠i->((ops[k]?).bind (·.dst))≠some d
 reads: ∀t∈o.looksAt ops,∀k,k<m->((ops[k]?).bind (·.dst))=some t-> ∃e∈o.after,Region.binds md e=true/\e.on=k
theorem oQ {m i:Nat} {o:Oper} (h:pF md ops m=true) (ho:ops[i]?=some o) (hi:i<m):aaM md ops m i o:=by
 have hlt:i<ops.size:=(Array.getElem?_eq_some_iff.1 ho).1;have h1:=List.all_eq_true.1 h i (List.mem_range.2 hlt);simp only [ho,hi,if_true,Bool.and_eq_true]at h1;obtain ⟨⟨⟨h2,h3⟩,h4⟩,h5⟩:=h1
 have hk: ∀k,k<m-> ∀ok d,ops[k]?=some ok->ok.dst=some d->((k==i||o.dst !=some d)=true)/\((!(o.looksAt ops).contains d||(o.after.any λe=>Region.binds md e&&e.on==k))=true):=λk hk ok d h6 h7=>by
  have h8:=List.all_eq_true.1 h5 k (List.mem_range.2 hk);simp only [h6,h7,Bool.and_eq_true]at h8;exact h8
 refine ⟨by simpa using h2,λcs b e=>by rw [e]at h3;simp at h3,λe he hb=> ?_,λd hd k zI hk2 e=> ?_,λt ht k zI e=> ?_⟩
 .have:=Array.all_eq_true_iff_forall_mem.1 h4 e he
  simpa [hb]using this
 .cases gA:ops[k]? with
  |none=>rw [gA]at e;simp at e
  |some ok=>
   rw [gA]at e;have:=(hk k zI ok d gA (by simpa using e)).1;simp [hk2,hd]at this
 .cases gA:ops[k]? with
  |none=>rw [gA]at e;simp at e
  |some ok=>
   rw [gA]at e;have h8:=(hk k zI ok t gA (by simpa using e)).2;have h9:(o.looksAt ops).contains t=true:=by simpa using ht
   rw [h9]at h8;simp only [Bool.not_true,Bool.false_or]at h8;obtain ⟨x,hx,hb⟩:=Array.any_eq_true'.1 h8;simp only [Bool.and_eq_true,beq_iff_eq]at hb;exact ⟨x,hx,hb.1,hb.2⟩
theorem Br {m j:Nat} {o:Oper} (h:pF md ops m=true) (ho:ops[j]?=some o) (hj: ¬j<m) (k:Nat) (hk:k<m): ∃e∈o.after,Region.binds md e=true/\e.on=k:=by
 have hlt:j<ops.size:=(Array.getElem?_eq_some_iff.1 ho).1;have h1:=List.all_eq_true.1 h j (List.mem_range.2 hlt);simp only [ho,hj,if_false]at h1;have h2:=List.all_eq_true.1 h1 k (List.mem_range.2 hk);obtain ⟨x,hx,hb⟩:=Array.any_eq_true'.1 h2;simp only [Bool.and_eq_true,beq_iff_eq]at hb;exact ⟨x,hx,hb.1,hb.2⟩
def oT (m:Nat) (ls:Array Bool):Nat:=((List.range m).filter λi=> !ls.getD i false).length
theorem I6 {m i:Nat} {ls:Array Bool} (hi:i<m) (hs:i<ls.size) (h:ls.getD i false=false):oT m ls=oT m (ls.setIfInBounds i true)+1:=by
 unfold oT;induction m with
 |zero=>omega
 |succ m ih=>
  rw [List.range_succ,List.filter_append,List.filter_append,List.length_append,List.length_append];by_cases hm:i=m
  .subst hm
   have h1:((List.range i).filter λk=> !(ls.setIfInBounds i true).getD k false)=(List.range i).filter λk=> !ls.getD k false:=by
    apply List.filter_congr;intro k hk;have:i≠k:=λe=>bA (List.mem_range.1 hk);rw [getD_set_ne false this]
   rw [h1];have h2:(ls.setIfInBounds i true).getD i false=true:=by simp [hs]
   simp only [List.filter_cons,List.filter_nil,h,h2];simp
  .have h2:(ls.setIfInBounds i true).getD m false=ls.getD m false:=getD_set_ne false hm
   have:=ih ae;simp only [List.filter_cons,List.filter_nil,h2];omega
theorem rW (n j:Nat):(Array.replicate n false).getD j false=false:=by
 simp only [Array.getD_eq_getD_getElem?,Array.getElem?_replicate];split<;>rfl
theorem zO {m:Nat} {ls:Array Bool} (h:0<oT m ls): ∃i,i<m/\ls.getD i false=false/\ ∀j,j<i->ls.getD j false=true:=by
 unfold oT at h;induction m with
 |zero=>simp at h
 |succ m ih=>
  by_cases hm:0<((List.range m).filter λi=> !ls.getD i false).length
  .obtain ⟨i,h1,h2⟩:=ih hm
   exact ⟨i,ae,h2⟩
  .have h0:((List.range m).filter λi=> !ls.getD i false)= []:=List.eq_nil_of_length_eq_zero ae
   refine ⟨m,ae,?_,λj hj=> ?_⟩
   .rw [List.range_succ,List.filter_append,h0]at h
    cases q:ls.getD m false with
    |false=>rfl
    |true=>simp only [List.filter_cons,List.filter_nil,q]at h;simp at h
   .have:=List.filter_eq_nil_iff.1 h0 j (List.mem_range.2 hj)
    simpa using this
theorem FJ {m:Nat} {ls:Array Bool} (h:oT m ls=0): ∀i,i<m->ls.getD i false=true:=λi hi=>by
 have:=List.filter_eq_nil_iff.1 (List.eq_nil_of_length_eq_zero h) i (List.mem_range.2 hi);simpa using this
theorem oU (m:Nat) (base:Act) (D:Nat->Value->World->Prop) (G:World->Prop) (vE:pF md ops m=true) (hm:m<=ops.size) (hQ: ∀c t t' d w,Q (.panic c) ⟨t,d⟩ w->Q (.panic c) ⟨t',d⟩ w)
 (step: ∀i,i<m-> ∀o,ops[i]?=some o-> ∀(f:Nat->Value) (w:World),G w->(∀e∈o.after,Region.binds md e=true->D e.on (f e.on) w)->
   ∀K:Act->World->Prop,(∀v w',G w'->D i v w'->(∀j u,j<m->j≠i->D j u w->D j u w')->K ((eA ops m (λ_=>true) f base).put o.dst v) w')->Oper.wp P o (eA ops m (λ_=>true) f base) w K Q)
 (rest: ∀(f:Nat->Value) (w:World),G w->(∀i,i<m->D i (f i) w)->wpAny P md ops Q (ops.size-m) ((List.replicate m true++List.replicate (ops.size-m) false).toArray) (eA ops m (λ_=>true) f base) w):
 ∀(k:Nat) (ls:Array Bool) (f:Nat->Value) (w:World),oT m ls=k->ls.size=ops.size->(∀j,m<=j->ls.getD j false=false)->G w->(∀i,i<m->ls.getD i false=true->D i (f i) w)->
  wpAny P md ops Q (ops.size-m+k) ls (eA ops m (λi=>ls.getD i false) f base) w
 |0,ls,f,w,hk,hs,hge,hG,hD=>by
  have hall:=FJ hk
  have h1:ls=(List.replicate m true++List.replicate (ops.size-m) false).toArray:=by
   apply Array.ext
   .simp [hs];omega
   .intro i h1 h2
    have h3:ls[i]=ls.getD i false:=by simp [h1]
    rw [h3];by_cases hi:i<m
    .rw [hall i hi];simp [hi]
    .rw [hge i ae];simp [List.getElem_append,hi]
  have h2:eA ops m (λi=>ls.getD i false) f base=eA ops m (λ_=>true) f base:=by
   unfold eA;congr 1
   apply Array.ext_getElem?;intro t;simp only [Array.getElem?_mapIdx];cases base.tmps[t]? with
   |none=>rfl
   |some u=>
    simp only [Option.map_some];cases hq:jc ops m t with
    |none=>rfl
    |some k=>simp only [hall k (iF hq).1]
  rw [h2];have:=rest f w hG (λi hi=>hD i hi (hall i hi));rw [<-h1]at this;exact this
 |k+1,ls,f,w,hk,hs,hge,hG,hD=>by
  refine ⟨λhnil=> ?_,λi hi=> ?_⟩
  .exfalso
   obtain ⟨i,h1,h2,h3⟩:=zO (ls:=ls) (m:=m) ae;have hlt:i<ops.size:=ae;have ho:ops[i]?=some ops[i]:=Array.getElem?_eq_getElem hlt;have gA:=oQ vE ho h1
   have:i∈Region.ready md ops ls:=by
    rw [mem_ready];refine ⟨?_,ops[i],ho,λe he hb=>h3 _ (gA.low e he hb)⟩;have h5:i<ls.size:=ae;simp [h5]at h2⊢;exact h2
   rw [hnil]at this;cases this
  .obtain ⟨h0,o,ho,hall⟩:=mem_ready.1 hi
   have hlt:i<ls.size:=bA ((Array.getElem?_eq_some_iff.1 ho).1);have Q6:ls.getD i false=false:=by simp [hlt]at h0⊢;exact h0
   have YN:i<m:=by
    apply Classical.byContradiction;intro hni;obtain ⟨q,h1,h2,-⟩:=zO (ls:=ls) (m:=m) ae;obtain ⟨e,he,hb,heq⟩:=Br vE ho hni q h1;have:=hall e he hb;rw [heq,h2]at this;cases this
   have gA:=oQ vE ho YN;unfold wpOp;simp only [ho]
   have hw:Region.wanted o (yielded ops (eA ops m (λi=>ls.getD i false) f base).tmps)=true:=by
    unfold Region.wanted;rw [gA.guard]
   rw [if_pos hw];refine .inl (Ry (R:=λv w'=>G w'/\D i v w'/\ ∀j u,j<m->j≠i->D j u w->D j u w') (b:=eA ops m (λ_=>true) f base) ?_ (by simp [eA]) rfl hQ ?_ ?_)
   .refine execOp_congr o gA.sel λx hx=>Dq λt q hxt hown=> ?_
    obtain ⟨h1,h2⟩:=iF hown;have aaO:t∈o.looksAt ops:=List.mem_append_left _ (List.mem_filterMap.2 ⟨.tmp t,by subst hxt;simpa using hx,rfl⟩);obtain ⟨e,he,hb,heq⟩:=gA.reads t aaO q h1 h2;have:=hall e he hb;rw [heq]at this;exact this
   .exact step i YN o ho f w hG (λe he hb=>hD _ (bA (gA.low e he hb)) (hall e he hb)) _ (λv w' h1 h2 h3=>⟨v,rfl,h1,h2,h3⟩)
   .rintro v w' ⟨h1,h2,h3⟩
    rw [xu YN ho gA.dst]
    have hc:(λq=>ls.getD q false||q==i)=λq=>(ls.setIfInBounds i true).getD q false:=by
     funext q
     by_cases hq:i=q
     .subst hq;simp [hlt]
     .rw [getD_set_ne false hq]
      have:(q==i)=false:=by simp;omega
      rw [this,Bool.or_false]
    rw [hc];refine oU m base D G vE hm hQ step rest k (ls.setIfInBounds i true) _ w' (bA (I6 YN hlt Q6)) (by simpa using hs) (λj hj=>by rw [getD_set_ne false ae];exact hge j hj) h1 λj hj hl=> ?_;by_cases vh:j=i
    .subst vh;simpa using h2
    .rw [getD_set_ne false (λe=>vh e.symm)]at hl
     simp only [vh,if_false];exact h3 j _ hj vh (hD j hj hl)
theorem vF {id:Nat} {base:Act} {w:World} (m:Nat) (D:Nat->Value->World->Prop) (G:World->Prop) (hf:P.follows .mixedOrders=true) (vE:pF .any ops m=true) (hm:m<=ops.size)
 (hQ: ∀c t t' d w,Q (.panic c) ⟨t,d⟩ w->Q (.panic c) ⟨t',d⟩ w) (hG:G w.drew)
 (step: ∀i,i<m-> ∀o,ops[i]?=some o-> ∀(f:Nat->Value) (w:World),G w->(∀e∈o.after,Region.binds .any e=true->D e.on (f e.on) w)->
   ∀K:Act->World->Prop,(∀v w',G w'->D i v w'->(∀j u,j<m->j≠i->D j u w->D j u w')->K ((eA ops m (λ_=>true) f base).put o.dst v) w')->Oper.wp P o (eA ops m (λ_=>true) f base) w K Q)
 (rest: ∀(f:Nat->Value) (w:World),G w->(∀i,i<m->D i (f i) w)->wpAny P .any ops Q (ops.size-m) ((List.replicate m true++List.replicate (ops.size-m) false).toArray) (eA ops m (λ_=>true) f base) w):(Code.region id ops true).wp P Q base w:=by
 refine wp_region_any hf ?_;have h:=oU m base D G vE hm hQ step rest (oT m (Array.replicate ops.size false)) (Array.replicate ops.size false) (λ_=>undef) w.drew rfl aG (λj hj=>rW _ j) hG (λi hi h=>by rw [rW]at h;cases h)
 have h1:(λi=>(Array.replicate ops.size false).getD i false)=λ_=>false:=by
  funext i;exact rW _ i
 have h2:ops.size-m+oT m (Array.replicate ops.size false)=ops.size:=by
  have:oT m (Array.replicate ops.size false)=m:=by
   unfold oT;rw [List.filter_eq_self.2 (λi _=>by rw [rW];rfl)];simp
  omega
 rw [h1,h2,uJ]at h;exact h
def pG:Nat->List (Option Tmp)->(Nat->Value)->Act->Act
 |_,[],_,a=>a
 |k,d::ds,f,a=>pG (k+1) ds f (a.put d (f k))
theorem uK {m:Nat} (vE:pF md ops m=true) (hm:m<=ops.size) (f:Nat->Value) (base:Act): ∀(ds:List (Option Tmp)) (k:Nat),k+ds.length=m->(∀j,j<ds.length->ds[j]?=some ((ops[k+j]?).bind (·.dst)))->
 pG k ds f (eA ops m (λq=>decide (q<k)) f base)=eA ops m (λ_=>true) f base
 | [],k,hk,_=>by
   show eA _ _ _ _ _=_;simp only [List.length_nil,Nat.add_zero]at hk;subst hk;unfold eA;congr 1
   apply Array.ext_getElem?;intro t;simp only [Array.getElem?_mapIdx];cases base.tmps[t]? with
   |none=>rfl
   |some u=>
    simp only [Option.map_some];cases hq:jc ops k t with
    |none=>rfl
    |some q=>simp only [decide_eq_true (iF hq).1]
 |d::ds,k,hk,hd=>by
  simp only [List.length_cons]at hk;have hkm:k<m:=ae;have ho:ops[k]?=some ops[k]:=Array.getElem?_eq_getElem ae;have h0:=hd 0 aG;rw [Nat.add_zero,ho]at h0;simp only [List.getElem?_cons_zero,Option.bind_some,Option.some.injEq]at h0;subst h0;show pG (k+1) ds f ((eA ops m (λq=>decide (q<k)) f base).put ops[k].dst (f k))=_;rw [xu hkm ho (oQ vE ho hkm).dst];have h1:(λq=>if q=k then f k else f q)=f:=by funext q;split<;>simp_all
  have h2:(λq=>decide (q<k)||q==k)=λq=>decide (q<k+1):=by
   funext q
   by_cases h3:q<k
   .have h5:q<k+1:=ae
    simp [h3,h5]
   .by_cases h4:q=k
    .simp [h4]
    .have h5: ¬q<k+1:=λe=>h4 (Nat.le_antisymm (Nat.le_of_lt_succ e) (Nat.le_of_not_lt h3))
     simp [h3,h4,h5]
  rw [h1,h2];refine uK vE hm f base ds (k+1) ae λj hj=> ?_;have:=hd (j+1) (by simp;omega);simp only [List.getElem?_cons_succ]at this;rw [this];congr 2;congr 1;omega
def fK (P:Program) (ops:Array Oper) (Q:Exit->Act->World->Prop) (m:Nat) (D:Nat->Value->World->Prop) (G:World->Prop) (A:(Nat->Value)->Act) (rs:List Nat):Prop:=
 ∀i∈rs,∀o,ops[i]?=some o-> ∀(f:Nat->Value) (w:World),G w->(∀e∈o.after,Region.binds .any e=true->D e.on (f e.on) w)->
  ∀K:Act->World->Prop,Shut (∀v w',G w'->D i v w'->(∀j u,j<m->j≠i->D j u w->D j u w')->K ((A f).put o.dst v) w')->Oper.wp P o (A f) w K Q
theorem fK.nil {m:Nat} {D:Nat->Value->World->Prop} {G:World->Prop} {A:(Nat->Value)->Act}:fK P ops Q m D G A []:=λ_ h=>by cases h
theorem fK.cons {m:Nat} {D:Nat->Value->World->Prop} {G:World->Prop} {A:(Nat->Value)->Act} {i:Nat} {o:Oper} {rs:List Nat} (ho:ops[i]?=some o)
 (h: ∀(f:Nat->Value) (w:World),G w->(∀e∈o.after,Region.binds .any e=true->D e.on (f e.on) w)->
   ∀K:Act->World->Prop,Shut (∀v w',G w'->D i v w'->(∀j u,j<m->j≠i->D j u w->D j u w')->K ((A f).put o.dst v) w')->Oper.wp P o (A f) w K Q)
 (hs:fK P ops Q m D G A rs):fK P ops Q m D G A (i::rs):=λj hj o' jl=>by
 rcases List.mem_cons.1 hj with rfl|hj
 .rw [ho]at jl;cases jl;exact h
 .exact hs j hj o' jl
theorem fK.take {m:Nat} {D:Nat->Value->World->Prop} {G:World->Prop} {A:(Nat->Value)->Act} {i:Nat} {o:Oper} {rs:List Nat} (ho:ops[i]?=some o)
 (h: ∀(f:Nat->Value) (w:World),G w->(∀e∈o.after,Region.binds .any e=true->D e.on (f e.on) w)-> ∃v,(execOp (A f).eval o).run P w= .ok (.value v) w/\D i v w)
 (hs:fK P ops Q m D G A rs):fK P ops Q m D G A (i::rs):=fK.cons ho (λf w hG hd K hK=>by
 obtain ⟨v,h1,h2⟩:=h f w hG hd;unfold Oper.wp;rw [h1];exact hK v w hG h2 λ_ _ _ _ h=>h) hs
theorem rX {id:Nat} {base:Act} {w:World} (ds:List (Option Tmp)) (D:Nat->Value->World->Prop) (G:World->Prop) {A:(Nat->Value)->Act} (hA: ∀f,pG 0 ds f base=A f) (hf:P.follows .mixedOrders=true)
 (vE:pF .any ops ds.length=true) (hm:ds.length<=ops.size) (hds:ds=(List.range ds.length).map λi=>(ops[i]?).bind (·.dst)) (hQ: ∀c t t' d w,Q (.panic c) ⟨t,d⟩ w->Q (.panic c) ⟨t',d⟩ w) (hG:G w.drew)
 (step:fK P ops Q ds.length D G A (List.range ds.length))
 (rest: ∀(f:Nat->Value) (w:World),G w->(∀i,i<ds.length->D i (f i) w)->wpAny P .any ops Q (ops.size-ds.length) ((List.replicate ds.length true++List.replicate (ops.size-ds.length) false).toArray) (A f) w):(Code.region id ops true).wp P Q base w:=by
 have hall: ∀f,eA ops ds.length (λ_=>true) f base=A f:=λf=>by
  rw [<-hA f,<-uK vE hm f base ds 0 ae λj hj=> ?_]
  .congr 1
   have:(λq=>decide (q<0))=λ_=>false:=by funext q;simp
   rw [this,uJ]
  .rw [hds];simp [hj]
 refine vF ds.length D G hf vE hm hQ hG (λi hi o ho f w hG hd K hK=> ?_) λf w hG hD=> ?_
 .rw [hall]at hK⊢
  exact step i (List.mem_range.2 hi) o ho f w hG hd K hK
 .rw [hall];exact rest f w hG hD
end
def Bt (g c:Bool) (v:Value):Value:=if c=g then v else undef
theorem zP (b:Bool) (v:Value):Bt b b v=v:=if_pos rfl
theorem Dr:(∀(b:Bool) (v:Value),Bt b b v=v)/\(∀(q:Prop) [Decidable q] (c p:Bool),(q↔c=true)->(if q then Value.bool true else Bt false c (.bool p))= .bool (c||p))/\
 (∀(q:Prop) [Decidable q] (c p:Bool),(q↔c=true)->(if q then Bt true c (.bool p)else Value.bool false)= .bool (c&&p)):=
 ⟨zP,λq _ c p h=>by cases c<;>by_cases e:q<;>simp_all [Bt],λq _ c p h=>by cases c<;>by_cases e:q<;>simp_all [Bt]⟩
theorem zQ {ops:Array Oper} {tmps:Array Value} {o:Oper} {j d:Nat} {g c:Bool} (hgd:o.guard=some (j,g)) (hj:(ops[j]?).bind (·.dst)=some d) (hc:tmps[d]?=some (.bool c)):Region.wanted o (yielded ops tmps)=(c==g):=by
 unfold Region.wanted yielded;rw [hgd];simp only [hj,Option.bind_some,hc];cases c<;>cases g<;>rfl
section
variable{P:Program} {ops:Array Oper} {Q:Exit->Act->World->Prop} {S:World->Prop} {n:Nat} {ls uD:Array Bool} {a a':Act} {w:World}
abbrev wpS (P:Program) (ops:Array Oper) (Q:Exit->Act->World->Prop) (S:World->Prop):=eV P .any ops Q S (λ_=>True) (λ_=>false)
theorem wG {id:Nat} (S:World->Prop) (hS:S w.drew) (h:S w.drew->wpS P ops Q S ops.size ls a w.drew) (hm:P.follows .mixedOrders=true:=by kernel_rfl)
 (hl:Array.replicate ops.size false=ls:=by simp only [List.size_toArray,List.length_cons,List.length_nil,Nat.reduceAdd,Array.replicate_succ,Array.replicate_zero,List.push_toArray,List.append_toArray,List.nil_append,List.cons_append];rfl):(Code.region id ops true).wp P Q a w:=
 aO S (λ_=>True) (λ_=>false) hm hS trivial λh1 _=>hl▸h h1
theorem wV (i:Nat) {v:Value} {o:Oper} (hS:S w) (h:wpS P ops Q S n uD a' w) (hi:ops[i]?=some o:=by rfl) (hy: ∀w,S w->(execOp a.eval o).run P w= .ok (.value v) w:=by intro w e;go_simp;try rfl)
 (hl:ls.setIfInBounds i true=uD:=by simp only [sS];rfl) (ha:a.put o.dst v=a':=by simp only [sS,Act.put];rfl)
 (h1:Region.noSelect ops=true:=by kernel_rfl) (h2:Region.free .any ops ls i=true:=by kernel_rfl)
 (h3:(Region.ready .any ops ls).contains i=true:=by kernel_rfl) (h5: ∀c a w,Q (.panic c) (a.put o.dst v) w->Q (.panic c) a w:=by exact λ_ _ _ h=>h)
 (h6:Region.wanted o (yielded ops a.tmps)=true:=by rfl):wpS P ops Q S (n+1) ls a w:=by
 subst hl ha;exact fZ hi h1 h2 h3 rfl h5 (Or.inl ⟨h6,hy⟩) hS (Or.inl trivial) h
theorem wN (i:Nat) {o:Oper} (hS:S w) (h:wpS P ops Q S n uD a' w) (hi:ops[i]?=some o:=by rfl)
 (hl:ls.setIfInBounds i true=uD:=by simp only [sS];rfl) (ha:a.put o.dst undef=a':=by simp only [sS,Act.put];rfl)
 (h1:Region.noSelect ops=true:=by kernel_rfl) (h2:Region.free .any ops ls i=true:=by kernel_rfl)
 (h3:(Region.ready .any ops ls).contains i=true:=by kernel_rfl) (h5: ∀c a w,Q (.panic c) (a.put o.dst undef) w->Q (.panic c) a w:=by exact λ_ _ _ h=>h)
 (h6:Region.wanted o (yielded ops a.tmps)=false:=by rfl):wpS P ops Q S (n+1) ls a w:=by
 subst hl ha;exact fZ hi h1 h2 h3 rfl h5 (Or.inr ⟨h6,rfl⟩) hS (Or.inl trivial) h
theorem wB (i:Nat) {j d:Nat} {g c:Bool} {v:Value} {o:Oper} (hS:S w) (h:wpS P ops Q S n uD a' w) (hi:ops[i]?=some o:=by rfl) (hgd:o.guard=some (j,g):=by rfl) (hj:(ops[j]?).bind (·.dst)=some d:=by rfl) (hc:a.tmps[d]?=some (.bool c):=by rfl)
 (hy:c=g-> ∀w,S w->(execOp a.eval o).run P w= .ok (.value v) w:=by intro hb w e;go_simp;try rfl)
 (hl:ls.setIfInBounds i true=uD:=by simp only [sS];rfl) (ha:a.put o.dst (if c=g then v else undef)=a':=by simp only [sS,Act.put];rfl)
 (h1:Region.noSelect ops=true:=by kernel_rfl) (h2:Region.free .any ops ls i=true:=by kernel_rfl)
 (h3:(Region.ready .any ops ls).contains i=true:=by kernel_rfl) (h5: ∀c v a w,Q (.panic c) (a.put o.dst v) w->Q (.panic c) a w:=by exact λ_ _ _ _ h=>h):wpS P ops Q S (n+1) ls a w:=by
 subst hl ha;have hw:=zQ (o:=o) hgd hj hc;by_cases hb:c=g
 .rw [if_pos hb]at h;exact fZ hi h1 h2 h3 rfl (λc=>h5 c v) (Or.inl ⟨by rw [hw];simpa using hb,hy hb⟩) hS (Or.inl trivial) h
 .rw [if_neg hb]at h;exact fZ hi h1 h2 h3 rfl (λc=>h5 c undef) (Or.inr ⟨by rw [hw];simpa using hb,rfl⟩) hS (Or.inl trivial) h
theorem wP (i:Nat) {b p q:Bool} {x y z:Operand} {o:Oper} (hS:S w) (h:wpS P ops Q S n uD a' w) (hi:ops[i]?=some o:=by rfl) (ho:o.op= .pick x y z:=by rfl) (hx:a.eval x= .bool b:=by rfl)
 (hy:b=true-> ∀w,S w->(execOp a.eval o).run P w= .ok (.value (.bool p)) w:=by intro hb w e;go_simp;try rfl) (hn:b=false-> ∀w,S w->(execOp a.eval o).run P w= .ok (.value (.bool q)) w:=by intro hb w e;go_simp;try rfl)
 (hl:ls.setIfInBounds i true=uD:=by simp only [sS];rfl) (ha:a.put o.dst (.bool (bif b then p else q))=a':=by simp only [sS,Act.put,cond_true,cond_false,Bool.cond_false_right,Bool.cond_true_left];rfl)
 (h1:Region.noSelect ops=true:=by kernel_rfl) (h2:Region.free .any ops ls i=true:=by kernel_rfl)
 (h3:(Region.ready .any ops ls).contains i=true:=by kernel_rfl) (h5: ∀c v a w,Q (.panic c) (a.put o.dst v) w->Q (.panic c) a w:=by exact λ_ _ _ _ h=>h)
 (h6:Region.wanted o (yielded ops a.tmps)=true:=by rfl):wpS P ops Q S (n+1) ls a w:=by
 subst hl ha;refine fZ hi h1 h2 h3 rfl (λc=>h5 c _) (Or.inl ⟨h6,λw hS=> ?_⟩) hS (Or.inl trivial) h;cases hb:b with
 |true=>exact hy hb w hS
 |false=>exact hn hb w hS
theorem wR (i:Nat) {o:Oper}
 (h: ∀K':Act->World->Prop,Shut (∀a w,S w->(S w->wpS P ops Q S n uD a w)->K' a w)->if Region.wanted o (yielded ops a.tmps)=true then Oper.wp P o a w K' Q else K' (a.put o.dst undef) w)
 (ho:ops[i]?=some o:=by rfl) (hl:ls.setIfInBounds i true=uD:=by simp only [sS];rfl) (hr:Region.ready .any ops ls= [i]:=by kernel_rfl):wpS P ops Q S (n+1) ls a w:=by
 subst hl;exact bH hr aG (aQ.cons ho (λK' hK=>h K' (ah λa w hS hW=>hK.o a w hS trivial λhS _=>hW hS)) aQ.nil)
theorem wD (h:Q .normal a w) (hr:Region.ready .any ops ls= []:=by kernel_rfl):wpS P ops Q S n ls a w:=aI hr h _
end
section
variable{P:Program} {ops:Array Oper} {Q:Exit->Act->World->Prop} {S:World->Prop} {z n:Nat} {ls uD:Array Bool} {a a':Act} {w:World}
abbrev PQ (P:Program) (ops:Array Oper) (Q:Exit->Act->World->Prop) (S:World->Prop) (z:Nat):=eV P .any ops Q (λ_=>True) S (λj=>j==z)
theorem zG {id:Nat} (z:Nat) (S:World->Prop) (hS:S w.drew) (h:S w.drew->PQ P ops Q S z ops.size ls a w.drew) (hm:P.follows .mixedOrders=true:=by kernel_rfl)
 (hl:Array.replicate ops.size false=ls:=by simp only [List.size_toArray,List.length_cons,List.length_nil,Nat.reduceAdd,Array.replicate_succ,Array.replicate_zero,List.push_toArray,List.append_toArray,List.nil_append,List.cons_append];rfl):(Code.region id ops true).wp P Q a w:=
 aO (λ_=>True) S _ hm trivial hS λ_ h1=>hl▸h h1
theorem zV (i:Nat) {v:Value} {o:Oper} (hS:S w) (h:PQ P ops Q S z n uD a' w) (hi:ops[i]?=some o:=by rfl) (hy: ∀w,S w->(execOp a.eval o).run P w= .ok (.value v) w:=by intro w e;go_simp;try rfl)
 (hl:ls.setIfInBounds i true=uD:=by simp only [sS];rfl) (ha:a.put o.dst v=a':=by simp only [sS,Act.put];rfl)
 (h1:Region.noSelect ops=true:=by kernel_rfl) (h2:Region.free .any ops ls i=true:=by kernel_rfl)
 (h3:(Region.ready .any ops ls).contains i=true:=by kernel_rfl) (h4:(i==z)=false:=by kernel_rfl) (h7:Aw .any ops (λj=>j==z) i=true:=by kernel_rfl) (h8:uC (λj=>j==z) ls=false:=by kernel_rfl)
 (h5: ∀c a w,Q (.panic c) (a.put o.dst v) w->Q (.panic c) a w:=by exact λ_ _ _ h=>h) (h6:Region.wanted o (yielded ops a.tmps)=true:=by rfl):PQ P ops Q S z (n+1) ls a w:=by
 subst hl ha;exact qV hi h1 h2 h3 h4 h7 h8 h5 (Or.inl ⟨h6,λw e=>hy w e.2⟩) trivial hS h
theorem zU (i:Nat) {v:Value} {o:Oper} (hS:S w) (h:PQ P ops Q S z n uD a' w) (hi:ops[i]?=some o:=by rfl) (hy: ∀w,(execOp a.eval o).run P w= .ok (.value v) w:=by intro w;go_simp;try rfl)
 (hl:ls.setIfInBounds i true=uD:=by simp only [sS];rfl) (ha:a.put o.dst v=a':=by simp only [sS,Act.put];rfl)
 (h1:Region.noSelect ops=true:=by kernel_rfl) (h2:Region.free .any ops ls i=true:=by kernel_rfl)
 (h3:(Region.ready .any ops ls).contains i=true:=by kernel_rfl) (h4:(i==z)=false:=by kernel_rfl)
 (h5: ∀c a w,Q (.panic c) (a.put o.dst v) w->Q (.panic c) a w:=by exact λ_ _ _ h=>h) (h6:Region.wanted o (yielded ops a.tmps)=true:=by rfl):PQ P ops Q S z (n+1) ls a w:=by
 subst hl ha;exact fZ hi h1 h2 h3 h4 h5 (Or.inl ⟨h6,λw _=>hy w⟩) trivial (Or.inl hS) h
theorem zR (i:Nat) {o:Oper}
 (h: ∀K':Act->World->Prop,Shut (∀a w,S w->(S w->PQ P ops Q S z n uD a w)->K' a w)->if Region.wanted o (yielded ops a.tmps)=true then Oper.wp P o a w K' Q else K' (a.put o.dst undef) w)
 (ho:ops[i]?=some o:=by rfl) (hl:ls.setIfInBounds i true=uD:=by simp only [sS];rfl) (hr:Region.ready .any ops ls= [i]:=by kernel_rfl):PQ P ops Q S z (n+1) ls a w:=by
 subst hl;exact bH hr aG (aQ.cons ho (λK' hK=>h K' (ah λa w hS hW=>hK.o a w trivial hS λ_ hR=>hW hR)) aQ.nil)
theorem zL (i:Nat) {o:Oper} (h: ∀K':Act->World->Prop,Shut (∀a w,Q .normal a w->K' a w)->if Region.wanted o (yielded ops a.tmps)=true then Oper.wp P o a w K' Q else K' (a.put o.dst undef) w)
 (ho:ops[i]?=some o:=by rfl) (hr:Region.ready .any ops ls= [i]:=by kernel_rfl) (hz:uC (λj=>j==z) (ls.setIfInBounds i true)=true:=by kernel_rfl) (hd:Region.ready .any ops (ls.setIfInBounds i true)= []:=by kernel_rfl):PQ P ops Q S z (n+1) ls a w:=
 bH hr aG (aQ.late ho hz (λK' hK=>h K' (ah λa w hq=>hK.o a w trivial λ_=>aI hd hq _)) aQ.nil)
end
section
variable{P:Program} {ops:Array Oper} {Q:Exit->Act->World->Prop} {rest:List Oper} {o:Oper} {a a':Act} {w:World}
theorem U6 {j d:Nat} {g c:Bool} {v:Value} (h:wpList P ops Q rest a' w) (hgd:o.guard=some (j,g):=by rfl) (hj:(ops[j]?).bind (·.dst)=some d:=by rfl) (hc:a.tmps[d]?=some (.bool c):=by rfl)
 (hy:c=g->(execOp a.eval o).run P w= .ok (.value v) w:=by intro hb;have hs:=zP;go_simp;try rfl) (ha:a.put o.dst (Bt g c v)=a':=by simp only [sS,Act.put];rfl):wpList P ops Q (o::rest) a w:=by
 subst ha;have hw:=zQ (o:=o) hgd hj hc;refine wpList_step λK hK=> ?_;rw [hw];by_cases hb:c=g
 .rw [if_pos (by simpa using hb)]
  rw [Bt,if_pos hb]at h;unfold Oper.wp;rw [hy hb,Oper.upon_value];exact hK _ _ h
 .rw [if_neg (by simpa using hb)]
  rw [Bt,if_neg hb]at h;exact hK _ _ h
end
