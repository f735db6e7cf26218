/- Texts of the proof. -/
import Derived.Test.YtfokdakioeoniaaGreatCj17
set_option linter.all false
set_option maxHeartbeats 1000000
set_option maxRecDepth 100000
namespace Go.Proofs.YtfokdakioeoniaaGreat
open Go.Proofs.Tryz
open Go.RowKit
def EE (x y:Int):Int:=if x=0 then y else x
theorem Ou (w:World) (b:Nat) (x y:Int) (h:aY w b 3 [.int .i64 x,.int .i64 y]):
 Calls prog 69 #[.slice (some ⟨b,0,none⟩) 2 2] w λe w'=>e= .returned (.int .i64 (EE x y))/\Ext w w':=by
 have c0:=h.cell 0;have c1:=h.cell 1;simp at c0 c1;by_cases hx:x=0
 .subst hx
  by_cases hy:y=0
  .subst hy
   go_enter func69,ntmps69
   go_wp2
   refine wp_loop_rounds 3 ?_;rw [rounds_succ]
   go_wp2
   rw [rounds_succ];go_wp2
   rw [rounds_succ];go_wp2
   go_ret;exact ⟨rfl,ah⟩
  .have hb:(y !=0)=true:=by simpa using hy
   go_enter func69,ntmps69
   go_wp2
   refine wp_loop_rounds 3 ?_;rw [rounds_succ]
   go_wp2
   rw [rounds_succ];go_wp2
   go_ret;exact ⟨rfl,ah⟩
 .have hb:(x !=0)=true:=by simpa using hx
  go_enter func69,ntmps69
  go_wp2
  refine wp_loop_rounds 3 ?_;rw [rounds_succ]
  go_wp2
  go_ret;exact ⟨cL (by unfold EE;rw [if_neg hx]),ah⟩
theorem pN {w:World} {o:Obj} {p:Addr} {x:Value} (h:w.cell? p=some x):(w.alloc o).cell? p=some x:=aB (ah.alloc _) h
def og (fs:List Rat) (x y:Nat):Int:=EE (fY (fs[y]?.getD 0) (fs[x]?.getD 0)) (eK (x:Int) (y:Int))
end Go.Proofs.YtfokdakioeoniaaGreat
namespace Go.Proofs
open Go.Shelf
end Go.Proofs
namespace Go.Proofs.YtfokdakioeoniaaGreat
open Go.Proofs.Tryz
open Go.RowKit Go.Sort Go.Shelf
def nu (fs:List Rat) (x y:Nat):Prop:=fs[y]?.getD 0<fs[x]?.getD 0\/(fs[y]?.getD 0=fs[x]?.getD 0/\x<y)
theorem pO {x y:Int}:eK x y<0↔x<y:=by
 unfold eK;split
 .simp [*]
 .split<;>simp [*]
theorem uS (fs:List Rat) (x y:Nat):og fs x y<0↔nu fs x y:=by
 unfold og EE nu;by_cases h:fY (fs[y]?.getD 0) (fs[x]?.getD 0)=0
 .rw [if_pos h,pO,r_.1 h]
  constructor
  .intro h1;exact Or.inr ⟨rfl,ae⟩
  .rintro (h1|⟨_,h1⟩)
   .exact absurd h1 Rat.lt_irrefl
   .omega
 .rw [if_neg h,J_]
  constructor
  .exact Or.inl
  .rintro (h1|⟨h1,_⟩)
   .exact h1
   .exact absurd (r_.2 h1) h
theorem oh (fs:List Rat) (x:Nat): ¬nu fs x x:=by
 rintro (h|⟨_,h⟩)
 .exact absurd h Rat.lt_irrefl
 .omega
theorem nv {fs:List Rat} {x y z:Nat} (h1:nu fs x y) (h2:nu fs y z):nu fs x z:=by
 unfold nu at*;generalize fs[x]?.getD 0=a at*;generalize fs[y]?.getD 0=b at*;generalize fs[z]?.getD 0=c at*;rcases h1 with h1|⟨rfl,h1⟩
 .rcases h2 with h2|⟨rfl,h2⟩
  .exact Or.inl (by grind)
  .exact Or.inl h1
 .rcases h2 with h2|⟨rfl,h2⟩
  .exact Or.inl h2
  .exact Or.inr ⟨rfl,ae⟩
theorem ue (fs:List Rat) (x y:Nat) (h1: ¬nu fs x y) (h2: ¬nu fs y x):x=y:=by
 unfold nu at*;generalize fs[x]?.getD 0=a at*;generalize fs[y]?.getD 0=b at*;simp only [not_or,not_and,Nat.not_lt]at h1 h2;have e:a=b:=Rat.le_antisymm (Rat.not_lt.1 h1.1) (Rat.not_lt.1 h2.1);have i1:=h1.2 e.symm;have i2:=h2.2 e;omega
theorem xj {fs:List Rat} {x y z:Nat} (h1: ¬nu fs x y) (h2: ¬nu fs y z): ¬nu fs x z:=by
 intro h3;by_cases e1:x=y
 .subst e1;exact h2 h3
 .have h4:nu fs y x:=Classical.byContradiction (λh=>e1 (ue fs x y h1 h))
  exact h2 (nv h4 h3)
def xk (b:Nat) (w w':World):Prop:= ∀k,k<w.heap.size->k≠b->w'.heap[k]?=w.heap[k]?
theorem xk.cell {b:Nat} {w w':World} (h:xk b w w') {p:Addr} {v:Value} (hp:p.block≠b) (hc:w.cell? p=some v):w'.cell? p=some v:=by
 have:=eH hc;unfold World.cell? at*;rw [h _ this hp];exact hc
theorem xk.raw {b:Nat} {w w':World} (h:xk b w w') {a:Option Addr} {k c n:Nat} (hr:Raw w a k c n) (hb: ∀x,a=some x->x.block≠b):Raw w' a k c n:=by
 obtain ⟨l,h1,h2,h3⟩:=hr
 exact ⟨l,h1,h2,h3.le,h3.cap,h3.short,h3.Ni,h3.small,λi hi=>by
  obtain ⟨b',o,ha,hc⟩:=h3.cell i hi;exact ⟨b',o,ha,h.cell (p:=⟨b',o+i,none⟩) (show b'≠b from hb ⟨b',o,none⟩ ha) hc⟩⟩
theorem qi {α:Type} [Inhabited α] (enc:α->Value) (w:World) (blk off m:Nat) (d:Array α) (os:Array Obj):xk blk w (sortWorld enc w blk off m d os):=by
 intro k hk hne;unfold sortWorld;rw [heap_grow_old _ _ (by simpa [Sort.ahead]using hk)];unfold putRow mapBlock;simp [Array.getElem?_modify,Ne.symm hne,Sort.ahead]
def iP (fs:List Rat) (n:Nat):List (Fin n):=(List.finRange n).mergeSort (λx y=> !(ltOf (λa b:Fin n=>og fs a b) y x))
def fj (fs:List Rat) (n j:Nat):Nat:=((iP fs n)[j]?.map (·.val)).getD 0
structure UO (fs:List Rat) (n blk:Nat) (w w':World):Prop where
 cell: ∀j,j<n->w'.cell? ⟨blk,j,none⟩=some (.int .i64 (fj fs n j:Nat))
 agree:xk blk w w'
 size:w.heap.size<=w'.heap.size
 os:w'.os=w.os
 tape:w'.tape=w.tape
 output:w'.output=w.output
 drawn:w.drawn<=w'.drawn
def eU:Rat:=((281474976710656:Int):Rat)
def my (q:Rat):Prop:=q<=eU/\ -q<=eU
def gN (l:List Int):Int:=l.sum
def cR (qs:List Rat):List Rat:=qs.map λq=>q-((q.floor:Int):Rat)
def dZ (fs:List Rat) (n:Nat) (l:List Int):Nat->List Int
 |0=>l
 |t+1=>(dZ fs n l t).set (fj fs n t) ((dZ fs n l t)[fj fs n t]?.getD 0+1)
def Dy (l:List Int) (w:World) (e:Ending) (w':World):Prop:= ∃b,e= .returned (.tuple #[.slice (some ⟨b,0,none⟩) l.length l.length,.int .i64 0])/\w.heap.size<=b/\aY w' b 3 (ju l)/\Ext w w'
theorem qY (l:List Rat):bO (l.take 0)=0:=rfl
theorem zH (l:List Rat) (L:Nat) (h: ∀i (hi:i<l.length),dW l[i]<=L): ∀i,i<=l.length->dW (bO (l.take i))<=i*(L+1)+1:=by
 intro i;induction i with
 |zero=>intro _;rw [qY,Nat.zero_mul,Nat.zero_add];show dW (((0:Int):Rat))<=1;rw [gi];decide
 |succ i ih=>
  intro hi;rw [m_ ae];have h1:=ih ae;have h2:=h i ae;have h3:=jm (bO (l.take i)) l[i];rw [Nat.succ_mul];omega
def kr (qs:List Rat):List Int:=dZ (cR qs) qs.length (qs.map Rat.floor) ((bO qs).floor-gN (qs.map Rat.floor)).toNat
theorem pP (fs:List Rat) (n:Nat):(iP fs n).Perm (List.finRange n):=List.mergeSort_perm _ _
theorem nw (fs:List Rat) (n:Nat):(iP fs n).length=n:=by simpa using(pP fs n).length_eq
theorem zI (fs:List Rat) (n:Nat):(iP fs n).Pairwise (λ(x y:Fin n)=> ¬nu fs y x):=by
 have e: ∀a b:Fin n,(!(ltOf (λa b:Fin n=>og fs a b) b a))=true↔ ¬nu fs b a:=by
  intro a b;unfold ltOf;rw [Bool.not_eq_true',decide_eq_false_iff_not,uS]
 have:=List.pairwise_mergeSort (le:=λx y:Fin n=> !(ltOf (λa b:Fin n=>og fs a b) y x)) (λa b c h1 h2=>by
  rw [e]at*;exact xj h2 h1) (λa b=>by
  rw [Bool.or_eq_true,e,e];by_cases h:nu fs b a
  .right;intro h2;exact oh fs _ (nv h h2)
  .left;exact h) (List.finRange n)
 exact this.imp (λ{a b} h=>(e a b).1 h)
theorem uT (fs:List Rat) (n j:Nat) (h:j<(iP fs n).length):fj fs n j=((iP fs n)[j]).val:=by
 unfold fj;rw [List.getElem?_eq_getElem h];rfl
theorem zJ (fs:List Rat) (n j k:Nat) (hj:j<n) (hk:k<n) (h:fj fs n j=fj fs n k):j=k:=by
 have hl:=nw fs n;rw [uT fs n j ae,uT fs n k ae]at h;have hn:(iP fs n).Nodup:=(pP fs n).nodup_iff.2 (List.nodup_finRange n);have hp:=List.pairwise_iff_getElem.1 hn;have he:=Fin.ext h;rcases Nat.lt_trichotomy j k with h1|h1|h1
 .exact absurd he (hp j k ae ae h1)
 .exact h1
 .exact absurd he.symm (hp k j ae ae h1)
theorem vR (fs:List Rat) (n j k:Nat) (hj:j<k) (hk:k<n):nu fs (fj fs n j) (fj fs n k):=by
 have hl:=nw fs n;have h1:=List.pairwise_iff_getElem.1 (zI fs n) j k ae ae hj;rw [<-uT,<-uT]at h1;refine Classical.byContradiction λh2=> ?_;have:=zJ fs n j k ae hk (ue fs _ _ h2 h1);omega
theorem fI.keep {w w':World} {r:bE} {q:Rat} {L:Nat} {row:Option Nat} (h:fI w r q L) (hb: ∀k,k<w.heap.size->some k≠row->w'.heap[k]?=w.heap[k]?) (ho:xi r row):fI w' r q L:=by
 have key: ∀{a:Option Addr} {k c n:Nat},Raw w a k c n->(0<k-> ∀x,a=some x->some x.block≠row)->Raw w' a k c n:=by
  intro a k c n hr ho;obtain ⟨l,e1,e2,e3⟩:=hr;refine ⟨l,e1,e2,e3.le,e3.cap,e3.short,e3.Ni,e3.small,λi hi=> ?_⟩;obtain ⟨b',o,ha,hc⟩:=e3.cell i hi;refine ⟨b',o,ha,?_⟩;have hlt:=eH hc;unfold World.cell? at*;rw [hb _ hlt (ho ae ⟨b',o,none⟩ ha)];exact hc
 obtain ⟨n,m,g1,g2,g3⟩:=h;exact ⟨n,m,key g1 ho.1,key g2 ho.2,g3⟩
theorem xi.next {w:World} {r:bE} {q:Rat} {L:Nat} {v v':Value} (ho:xi r v.ownBlock) (h:fI w r q L) (hv:v'.ownBlock=v.ownBlock\/ ∃g,v'.ownBlock=some g/\w.heap.size<=g):xi r v'.ownBlock:=by
 obtain ⟨n,m,g1,g2,g3⟩:=h;rcases hv with hv|⟨g,hg,hs⟩
 .rw [hv];exact ho
 .rw [hg]
  constructor
  .intro hk x hx e;cases e;have:=g1.lt hk x hx;omega
  .intro hk x hx e;cases e;have:=g2.lt hk x hx;omega
theorem gG.snoc {w wr w':World} {v v':Value} {rs:List bE} {qs:List Rat} {L:Nat} {r:bE} {q:Rat} (h:gG w wr v rs qs L) (hr:fI wr r q L) (hro:xi r v.ownBlock)
 (ho:w'.ownsRow w.heap.size 63 3 v' (rs.length+1) (bX rs++r.cells)) (hX:Ext w w') (hb: ∀k,k<wr.heap.size->some k≠v.ownBlock->w'.heap[k]?=wr.heap[k]?)
 (hv:v'.ownBlock=v.ownBlock\/ ∃g,v'.ownBlock=some g/\wr.heap.size<=g):gG w w' v' (rs++ [r]) (qs++ [q]) L:=by
 have hl:=h.len;refine ⟨by simp [hl],by rw [oH,List.length_append];exact ho,?_,?_,hX⟩
 .intro k hk
  rw [List.length_append,List.length_singleton]at hk;by_cases qJ:k<rs.length
  .rw [List.getElem_append_left qJ,List.getElem_append_left ae]
   exact (h.num k qJ).keep hb (h.off k qJ)
  .obtain rfl:k=rs.length:=ae
   rw [List.getElem_append_right cG,List.getElem_append_right ae];simp only [hl,Nat.sub_self,List.getElem_singleton];exact hr.keep hb hro
 .intro k hk
  rw [List.length_append,List.length_singleton]at hk;by_cases qJ:k<rs.length
  .rw [List.getElem_append_left qJ]
   exact (h.off k qJ).next (h.num k qJ) hv
  .obtain rfl:k=rs.length:=ae
   rw [List.getElem_append_right cG];simp only [Nat.sub_self,List.getElem_singleton];exact hro.next hr hv
open Go.ChangeShapes Go.WideShapes Go.ChangeAt
theorem jh.snoc {rs:List bE} {L:Nat} (h:jh rs L) {r:bE} (h1:r.k<=L) (h2:r.j<=L):jh (rs++ [r]) L:=by
 intro k hk;rw [List.length_append,List.length_singleton]at hk;by_cases qJ:k<rs.length
 .rw [List.getElem_append_left qJ];exact h k qJ
 .obtain rfl:k=rs.length:=ae
  rw [List.getElem_append_right cG];simp only [Nat.sub_self,List.getElem_singleton];exact ⟨h1,h2⟩
open Classical in
noncomputable def IL (qs:List Rat):Int:=if 128<qs.length\/(∃q∈qs,¬my q)then 8 else if bO qs=(((bO qs).floor:Int):Rat)then 0 else 14
def Ch (qs:List Rat) (w:World) (e:Ending) (w':World):Prop:=
 (IL qs=0/\Dy (kr qs) w e w')\/(¬IL qs=0/\e= .returned (.tuple #[.slice none 0 0,.int .i64 (IL qs)])/\Ext w w')
open Go.Deep
open Classical in
noncomputable def UQ (qs:List Rat):Nat:=if IL qs=0 then(kr qs).length else 0
def XS (qs:List Rat) (w:World) (e:Ending) (w':World):Prop:=
 ∃pa pc,e= .returned (.tuple #[.slice pa (UQ qs) pc,.int .i64 (IL qs)])/\(UQ qs=0\/(UQ qs=(kr qs).length/\oD w' pa (kr qs)))/\Ext w w'
theorem Ch.val {qs:List Rat} {w w':World} {e:Ending} (h:Ch qs w e w'):XS qs w e w':=by
 rcases h with⟨h0,b,he,_,hA,hx⟩|⟨h0,he,hx⟩
 .have hn:UQ qs=(kr qs).length:=by unfold UQ;rw [if_pos h0]
  refine ⟨some ⟨b,0,none⟩,(kr qs).length,?_,Or.inr ⟨hn,nt hA⟩,hx⟩;rw [he,hn,h0]
 .have hn:UQ qs=0:=by unfold UQ;rw [if_neg h0]
  refine ⟨none,0,?_,Or.inl hn,hx⟩;rw [he,hn]
theorem Ec (w:World) (s:Bool) (a b:Option Addr) (k c j d n m:Nat) (_h:Raw w a k c n) (_g:Raw w b j d m) (s':Bool) (a' b':Option Addr) (k' c' j' d' n' m':Nat) (h':Raw w a' k' c' n') (g':Raw w b' j' d' m') (h0:mkRat (bf s' n') m'=0):
 Calls prog 151 #[.agg #[.bool s,.slice a k c,.slice b j d],.agg #[.bool s',.slice a' k' c',.slice b' j' d']] w λe w'=>e= .returned (.tuple #[.agg #[.bool false,.slice none 0 0,.slice none 0 0],.bool false])/\Ext w w':=by
 have hs:(mkRat (bf s' n') m').num.sign=0:=eP.2 h0;clear h0;go_enter func151,ntmps151
 go_wp2_with fail
 obtain ⟨W,hW,x0,Z0,A0,A1,A2⟩:=et w 63 [.bool s,.slice a k c,.slice b j d] 63 [.bool s',.slice a' k' c',.slice b' j' d'] 63 [.bool false,.slice none 0 0,.slice none 0 0];rw [<-hW];clear hW;obtain ⟨z0,z1,z2,⟨aD,aF,bn,aM,aN,bG⟩,⟨aJ,aK,bM,aR,aS,bT⟩,aZ,a_,bW,bA,bB,cf⟩:=bb3 aA aA aA A0 A1 A2 ah;refine (fP _ _ _ _ _ _ _ _ _ _ (h'.ext x0) (g'.ext x0)).mono ?_;rintro e w1 ⟨rfl,hx1⟩;rw [hs];clear hs;obtain ⟨z0,z1,z2,⟨aD,aF,bn,aM,aN,bG⟩,⟨aJ,aK,bM,aR,aS,bT⟩,aZ,a_,bW,bA,bB,cf⟩:=bb3 aA aA aA A0 A1 A2 hx1;go_wp2
 exact bodyPost_ret (by simp [results,results151,go_sem, *]) rfl ⟨rfl,Ext.tT (x0.trans hx1) ae _ _ _⟩
theorem jr {P:Program} (w:World) {ops:Array Oper} {rest:List Oper} {o:Oper} {a:Act} {Q:Exit->Act->World->Prop}
 (hg:o.guard=none) (l c:Operand) (t:TypeId) (hop:o.op=Op.makeSlice t l c)
 (e:TypeId) (z:Value) (bytes:Nat) (h1:P.underlying t=some (.slice e)) (h2:(P.info? e).map (λi=>(i.zero,i.size,i.bytes))=some (some z,3,bytes)) (h3:z.cells=iV.toArray)
 (L C:Int) (n:Nat) (hl:a.eval l= .int .i64 L) (hc:a.eval c= .int .i64 C) (hL:L=(n:Int)) (hC:C=(n:Int)) (b2:bytes*n<=281474976710656) (b3:n<=9223372036854775807)
 (hK: ∀w',Hid (aY w' w.heap.size e (fh n))->Ext w w'->Hid (w'.heap.size=w.heap.size+1)->wpList P ops Q rest (a.put o.dst (.slice (some ⟨w.heap.size,0,none⟩) n n)) w'):
 wpList P ops Q (o::rest) a w:=by
 refine wpList_plain hg λK hK'=> ?_;obtain ⟨i,h2,h4,h5,h6⟩:=info_parts h2;have hrun:=run_make (P:=P) w t e i z h1 h2 h4 .i64 .i64 n n ae (Int.le_refl _) (by rw [h6,<-Int.natCast_mul];omega) ae;subst hL;subst hC;unfold Oper.wp;simp only [Int.toNat_natCast,h5,h3,qh]at hrun;simp [execOp,hop,hl,hc,hrun,Result.andThen];exact hK' _ _ (hK _ (aY.alloc _ _ _) (ah.alloc _) (show _=_ by simp))
theorem Tt (A:List Value) (m:Nat) (x y z:Value):(((A++fh (m+1)).set A.length x).set (A.length+1) y).set (A.length+2) z=(A++ [x,y,z])++fh m:=by
 have e:fh (m+1)= .bool false:: .slice none 0 0:: .slice none 0 0::fh m:=rfl;rw [e];generalize fh m=Z;rw [List.set_append_right _ _ ae,Nat.sub_self,List.set_cons_zero,List.set_append_right _ _ ae,Nat.add_sub_cancel_left,List.set_cons_succ,List.set_cons_zero,List.set_append_right _ _ ae,Nat.add_sub_cancel_left,List.set_cons_succ,List.set_cons_succ,List.set_cons_zero];simp
theorem lC {w:World} {b x:Nat} {p:Addr} {u v0 v1 v2:Value} (h:w.cell? p=some u) (hb:p.block≠b):(((w.setCell ⟨b,x,none⟩ v0).setCell ⟨b,x+1,none⟩ v1).setCell ⟨b,x+2,none⟩ v2).cell? p=some u:=by
 rw [World.cell?_setCell_other _ _ _ _ (by intro e;exact hb (by rw [<-e])),World.cell?_setCell_other _ _ _ _ (by intro e;exact hb (by rw [<-e])),World.cell?_setCell_other _ _ _ _ (by intro e;exact hb (by rw [<-e])),h]
theorem Vz (w:World) (pb g n L:Nat) (rs:List bE) (fs:List Rat) (hp:w.cell? ⟨pb,0,none⟩=some (.slice (some ⟨g,0,none⟩) n n)) (hR:jV w (some ⟨g,0,none⟩) n rs fs L) (hn:rs.length=n) (hL:L<100000000) (x y:Nat) (hx:x<n) (hy:y<n):
 Calls prog 68 #[.int .i64 (x:Nat),.int .i64 (y:Nat),.pointer (some ⟨pb,0,none⟩)] w λe w'=>e= .returned (.int .i64 (og fs x y))/\Ext w w':=by
 have ur:=hR.short;obtain ⟨b1,o1,e1,TB,VA,VB⟩:=hR.cell x ae;cases e1
 obtain ⟨b2,o2,e2,VC,VD,VE⟩:=hR.cell y ae;cases e2
 rw [Nat.zero_add]at TB VA VB VC VD VE;obtain ⟨n1,m1,r1,q1,v1,l1,l2⟩:=hR.num x ae;obtain ⟨n2,m2,r2,q2,v2,l3,l4⟩:=hR.num y ae;have hC:=λV (hV:Ext w V)=>kq V rs[y].s _ _ _ _ _ _ _ _ (r2.ext hV) (q2.ext hV) rs[x].s _ _ _ _ _ _ _ _ (r1.ext hV) (q1.ext hV) ae ae ae ae;have ex:fs[x]?.getD 0=fs[x]'(by rw [hR.len];omega):=by rw [List.getElem?_eq_getElem (by rw [hR.len];omega)];rfl
 have ey:fs[y]?.getD 0=fs[y]'(by rw [hR.len];omega):=by rw [List.getElem?_eq_getElem (by rw [hR.len];omega)];rfl
 rw [<-v1,<-v2,<-ex,<-ey]at hC;unfold og;generalize fY (fs[y]?.getD 0) (fs[x]?.getD 0)=z at hC⊢;have HC:=af hC;clear hC ex ey v1 v2;generalize rs[x]=rx at*;generalize rs[y]=ry at*;have bx:(x:Int)<(n:Int):=ae;have by':(y:Int)<(n:Int):=ae;have cx:(0:Int)<=(x:Int):=ae;have cy:(0:Int)<=(y:Int):=ae;have hz:=eH hp;have hg:=eH TB;simp only at hz hg;go_enter func68,ntmps68
 go_wp2_with fail
 go_region_held3 (λw'=>w'.cell? ⟨pb,0,none⟩=some (.slice (some ⟨g,0,none⟩) n n)/\w'.cell? ⟨g,x*3,none⟩=some (.bool rx.s)/\w'.cell? ⟨g,x*3+1,none⟩=some (.slice rx.a rx.k rx.c)/\w'.cell? ⟨g,x*3+2,none⟩=some (.slice rx.b rx.j rx.d)/\w'.cell? ⟨g,y*3,none⟩=some (.bool ry.s)/\w'.cell? ⟨g,y*3+1,none⟩=some (.slice ry.a ry.k ry.c)/\w'.cell? ⟨g,y*3+2,none⟩=some (.slice ry.b ry.j ry.d)) (first|exact ⟨hp,TB,VA,VB,VC,VD,VE⟩|exact ⟨pN hp,pN TB,pN VA,pN VB,pN VC,pN VD,pN VE⟩) (first
  |(go_at_call 62;refine (HC.o _ (by exact ah.drew)).mono ?_;rintro e w1 ⟨rfl,x1⟩;have hp:=aB ((Ext.refl w).drew.trans x1) hp;have TB:=aB ((Ext.refl w).drew.trans x1) TB;have VA:=aB ((Ext.refl w).drew.trans x1) VA;have VB:=aB ((Ext.refl w).drew.trans x1) VB;have VC:=aB ((Ext.refl w).drew.trans x1) VC;have VD:=aB ((Ext.refl w).drew.trans x1) VD;have VE:=aB ((Ext.refl w).drew.trans x1) VE)
  |(go_at_call 70;refine (uM _ _ _).mono ?_;rintro e w2 ⟨rfl,rfl⟩)
  |(go_at_call 69;refine (Ou _ _ _ _ (aY.alloc w1 3 [.int .i64 z,.int .i64 (eK (x:Int) (y:Int))])).mono ?_;rintro e w3 ⟨rfl,x3⟩;have y3:Ext w1 w3:=((Ext.refl w1).alloc _).trans x3;have hp:=aB y3 hp;have TB:=aB y3 TB;have VA:=aB y3 VA;have VB:=aB y3 VB;have VC:=aB y3 VC;have VD:=aB y3 VD;have VE:=aB y3 VE))
 all_goals go_wp2_with fail
 all_goals go_ret
 all_goals exact ⟨rfl,(ah.drew.trans x1).trans y3⟩
end Go.Proofs.YtfokdakioeoniaaGreat
namespace Go.Proofs
open Go.Shelf
end Go.Proofs
namespace Go.Proofs.YtfokdakioeoniaaGreat
open Go.Proofs.Tryz
open Go.RowKit Go.Sort Go.Shelf
theorem xk.LP {b:Nat} {w w':World} (h:xk b w w') {g c:Nat} {rs:List bE} {qs:List Rat} {L:Nat} (hr:jV w (some ⟨g,0,none⟩) c rs qs L) (hg:g≠b)
 (hb: ∀i (hi:i<rs.length),(∀x,rs[i].a=some x->x.block≠b)/\(∀x,rs[i].b=some x->x.block≠b)):jV w' (some ⟨g,0,none⟩) c rs qs L:=
 ⟨hr.len,hr.le,hr.cap,hr.short,λi hi=>by
   obtain ⟨b',o,ha,h0,h1,h2⟩:=hr.cell i hi;cases ha
   exact ⟨g,0,rfl,h.cell hg h0,h.cell hg h1,h.cell hg h2⟩,λi hi=>by
   obtain ⟨n,m,h1,h2,h3⟩:=hr.num i hi;exact ⟨n,m,h.raw h1 (hb i hi).1,h.raw h2 (hb i hi).2,h3⟩⟩
theorem RX (w:World) (pb g blk n L c:Nat) (rs:List bE) (fs:List Rat) (hp:w.cell? ⟨pb,0,none⟩=some (.slice (some ⟨g,0,none⟩) n n)) (hR:jV w (some ⟨g,0,none⟩) n rs fs L) (hn:rs.length=n) (hL:L<100000000) (h0:0<n) (Uc:n<1000000)
 (YP:pb≠blk) (hg:g≠blk) (hb: ∀i (hi:i<rs.length),(∀x,rs[i].a=some x->x.block≠blk)/\(∀x,rs[i].b=some x->x.block≠blk))
 (hO: ∀j,j<n->w.cell? ⟨blk,j,none⟩=some (.int .i64 (j:Nat))/\w.frozen? ⟨blk,j,none⟩=false):
 Calls prog 67 #[.slice (some ⟨blk,0,none⟩) n c,.func (.func 68) #[] #[.pointer (some ⟨pb,0,none⟩)]] w λe w'=>e= .returned (.tuple #[])/\UO fs n blk w w':=by
 obtain ⟨n',rfl⟩: ∃n',n=n'+1:=⟨n-1,ae⟩;have eg: ∀args w,(callFunc 68 args).run prog w= .ok (.enter 68 args) w:=enters_of func68 aw rfl
 have hsw:SWO (ltOf (λa b:Fin (n'+1)=>og fs a b)):=by
  have e: ∀a b:Fin (n'+1),ltOf (λa b:Fin (n'+1)=>og fs a b) a b=false↔ ¬nu fs a b:=by
   intro a b;unfold ltOf;rw [decide_eq_false_iff_not,uS]
  have e': ∀a b:Fin (n'+1),ltOf (λa b:Fin (n'+1)=>og fs a b) a b=true↔nu fs a b:=by
   intro a b;unfold ltOf;rw [decide_eq_true_iff,uS]
  refine ⟨λx=>(e x x).2 (oh fs x),λx y z h1 h2=>(e' x z).2 (nv ((e' x y).1 h1) ((e' y z).1 h2)),λx y z h1 h2=>(e x z).2 (xj ((e x y).1 h1) ((e y z).1 h2))⟩
 have acY: ∀x y:Fin (n'+1),ltOf (λa b:Fin (n'+1)=>og fs a b) x y=false->ltOf (λa b:Fin (n'+1)=>og fs a b) y x=false->x=y:=by
  intro x y h1 h2;unfold ltOf at h1 h2;rw [decide_eq_false_iff_not,uS]at h1 h2;exact Fin.ext (ue fs x y h1 h2)
 have hsz:(Array.ofFn (λi:Fin (n'+1)=>i)).size=n'+1:=aX
 have hH:Holds (λi:Fin (n'+1)=>Value.int .i64 (i.val:Nat)) w blk 0 (Array.ofFn (λi:Fin (n'+1)=>i)):=by
  intro j hj;rw [hsz]at hj;rw [Nat.zero_add,getElem!_pos _ j (by rw [hsz];exact hj)];simp only [Array.getElem_ofFn];exact hO j hj
 have hblk:blk<w.heap.size:=eH (p:=⟨blk,0,none⟩) (hO 0 ae).1
 have xS:CmpLays1 prog 68 #[.pointer (some ⟨pb,0,none⟩)] (λi:Fin (n'+1)=>Value.int .i64 (i.val:Nat)) (λa b:Fin (n'+1)=>og fs a b) blk 0 (Array.ofFn (λi:Fin (n'+1)=>i)).size w:=by
  intro m os dk _ x y;have ag:=qi (λi:Fin (n'+1)=>Value.int .i64 (i.val:Nat)) w blk 0 m dk os;refine (Vz _ pb g (n'+1) L rs fs (ag.cell YP hp) (ag.LP hR hg hb) hn hL x y x.2 y.2).mono ?_;rintro e w' ⟨he,hx⟩;exact ⟨he,hx.grow⟩
 have hS:=Any.slices_SortFunc_total Tryz.sortL (λi:Fin (n'+1)=>Value.int .i64 (i.val:Nat)) (λ_=>rfl) (λa b:Fin (n'+1)=>og fs a b) hsw 68 #[.pointer (some ⟨pb,0,none⟩)] blk 0 c (Array.ofFn (λi:Fin (n'+1)=>i)) w eg xS hH hblk (by rw [hsz];omega) acY;rw [hsz]at hS;change Calls prog 67 _ _ _ at hS
 refine hS.mono ?_;rintro e w' ⟨he,m,os,rfl⟩;refine ⟨he,?_⟩;have hl:(Array.ofFn (λi:Fin (n'+1)=>i)).toList=List.finRange (n'+1):=by simp [List.finRange]
 rw [hl];have hlen:(iP fs (n'+1)).toArray.size=n'+1:=by simp [iP]
 refine ⟨λj hj=> ?_,qi _ _ _ _ _ _ _,?_,rfl,rfl,rfl,?_⟩
 .have hw:SW (λi:Fin (n'+1)=>Value.int .i64 (i.val:Nat)) w blk 0 (iP fs (n'+1)).toArray (sortWorld (λi:Fin (n'+1)=>Value.int .i64 (i.val:Nat)) w blk 0 m (iP fs (n'+1)).toArray os):=⟨m,os,rfl⟩
  have h5:=(hw.holds hblk hH (by rw [hlen,hsz]) j (by rw [hlen];exact hj)).1;rw [Nat.zero_add]at h5;refine h5.trans ?_;rw [getElem!_pos _ j (by rw [hlen];exact hj)];unfold fj;rw [List.getElem?_eq_getElem (by have:=hlen;simp at this;omega)];rfl
 .show w.heap.size<=(sortWorld _ w blk 0 m _ os).heap.size
  unfold sortWorld;rw [size_grow,size_putRow];exact Nat.le_add_right _ _
 .show w.drawn<=w.drawn+m
  exact Nat.le_add_right _ _
