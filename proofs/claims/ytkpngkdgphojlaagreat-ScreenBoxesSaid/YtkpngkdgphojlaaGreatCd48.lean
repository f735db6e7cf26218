/- Texts of the proof. -/
import Derived.Test.YtkpngkdgphojlaaGreatCd31
import Derived.Test.YtkpngkdgphojlaaGreatCd36
set_option linter.all false
set_option maxHeartbeats 4000000
set_option maxRecDepth 100000
namespace Go.Proofs.YtkpngkdgphojlaaGreat
open Go.Proofs.Tryz
open Go.RowKit
theorem Gq (A:List Int) (m:Nat) (x:Int):(lQ (A++List.replicate (m+1) 0)).set A.length (.int .i64 x)=lQ ((A++ [x])++List.replicate m 0):=by
 unfold lQ;rw [←List.map_set,List.set_append_right _ _ (by omega),Nat.sub_self,List.replicate_succ,List.set_cons_zero,List.append_assoc];rfl
theorem DX (n:Nat):List.replicate n (Value.int .i64 0)=lQ (List.replicate n 0):=by simp [lQ]
theorem xg (l:List ct) (r:ct):dL (l++ [r])=dL l++r.cells:=by simp [dL]
def TD (x y:Int):Int:=if x=0 then y else x
theorem O9 (w:World) (b:Nat) (x y:Int) (h:aJ w b 3 [.int .i64 x,.int .i64 y]):
 Calls prog 115 #[.slice (some ⟨b,0,none⟩) 2 2] w fun e w'=>e= .returned (.int .i64 (TD x y))∧Ext w w':=by
 have c0:=h.cell 0;have c1:=h.cell 1;simp at c0 c1;by_cases hx:x=0
 ·subst hx
  by_cases hy:y=0
  ·subst hy
   go_enter func115,ntmps115
   go_wp2
   refine wp_loop_rounds 3 ?_;rw [rounds_succ]
   go_wp2
   rw [rounds_succ];go_wp2
   rw [rounds_succ];go_wp2
   go_ret;exact ⟨rfl,Ext.refl _⟩
  ·have hb:(y !=0)=true:=by simpa using hy
   go_enter func115,ntmps115
   go_wp2
   refine wp_loop_rounds 3 ?_;rw [rounds_succ]
   go_wp2
   rw [rounds_succ];go_wp2
   go_ret;exact ⟨rfl,Ext.refl _⟩
 ·have hb:(x !=0)=true:=by simpa using hx
  go_enter func115,ntmps115
  go_wp2
  refine wp_loop_rounds 3 ?_;rw [rounds_succ]
  go_wp2
  go_ret;exact ⟨cS (by unfold TD;rw [if_neg hx]),Ext.refl _⟩
theorem mF {w:World} {o:Obj} {p:Addr} {x:Value} (h:w.cell? p=some x):(w.alloc o).cell? p=some x:=aj ((Ext.refl _).alloc _) h
def i7 (fs:List Rat) (x y:Nat):Int:=TD (i6 (fs[y]?.getD 0) (fs[x]?.getD 0)) (jM (x:Int) (y:Int))
end Go.Proofs.YtkpngkdgphojlaaGreat
namespace Go.Proofs
open Go.Shelf
end Go.Proofs
namespace Go.Proofs.YtkpngkdgphojlaaGreat
open Go.Proofs.Tryz
open Go.RowKit Go.Sort Go.Shelf
def lG (fs:List Rat) (x y:Nat):Prop:=fs[y]?.getD 0<fs[x]?.getD 0∨(fs[y]?.getD 0=fs[x]?.getD 0∧x<y)
theorem zM {x y:Int}:jM x y<0↔x<y:=by
 unfold jM;split
 ·simp [*]
 ·split<;>simp [*]
theorem qC (fs:List Rat) (x y:Nat):i7 fs x y<0↔lG fs x y:=by
 unfold i7 TD lG;by_cases h:i6 (fs[y]?.getD 0) (fs[x]?.getD 0)=0
 ·rw [if_pos h,zM,n9.1 h]
  constructor
  ·intro h1;exact Or.inr ⟨rfl,by omega⟩
  ·rintro (h1|⟨_,h1⟩)
   ·exact absurd h1 Rat.lt_irrefl
   ·omega
 ·rw [if_neg h,ue]
  constructor
  ·exact Or.inl
  ·rintro (h1|⟨h1,_⟩)
   ·exact h1
   ·exact absurd (n9.2 h1) h
theorem sX (fs:List Rat) (x:Nat): ¬lG fs x x:=by
 rintro (h|⟨_,h⟩)
 ·exact absurd h Rat.lt_irrefl
 ·omega
theorem pw {fs:List Rat} {x y z:Nat} (h1:lG fs x y) (h2:lG fs y z):lG fs x z:=by
 unfold lG at*;generalize fs[x]?.getD 0=a at*;generalize fs[y]?.getD 0=b at*;generalize fs[z]?.getD 0=c at*;rcases h1 with h1|⟨rfl,h1⟩
 ·rcases h2 with h2|⟨rfl,h2⟩
  ·exact Or.inl (by grind)
  ·exact Or.inl h1
 ·rcases h2 with h2|⟨rfl,h2⟩
  ·exact Or.inl h2
  ·exact Or.inr ⟨rfl,by omega⟩
theorem px (fs:List Rat) (x y:Nat) (h1: ¬lG fs x y) (h2: ¬lG fs y x):x=y:=by
 unfold lG at*;generalize fs[x]?.getD 0=a at*;generalize fs[y]?.getD 0=b at*;simp only [not_or,not_and,Nat.not_lt]at h1 h2;have e:a=b:=Rat.le_antisymm (Rat.not_lt.1 h1.1) (Rat.not_lt.1 h2.1);have i1:=h1.2 e.symm;have i2:=h2.2 e;omega
theorem sY {fs:List Rat} {x y z:Nat} (h1: ¬lG fs x y) (h2: ¬lG fs y z): ¬lG fs x z:=by
 intro h3;by_cases e1:x=y
 ·subst e1;exact h2 h3
 ·have h4:lG fs y x:=Classical.byContradiction (fun h=>e1 (px fs x y h1 h))
  exact h2 (pw h4 h3)
def nL (b:Nat) (w w':World):Prop:= ∀k,k<w.heap.size→k≠b→w'.heap[k]?=w.heap[k]?
theorem nL.cell {b:Nat} {w w':World} (h:nL b w w') {p:Addr} {v:Value} (hp:p.block≠b) (hc:w.cell? p=some v):w'.cell? p=some v:=by
 have:=bm hc;unfold World.cell? at*;rw [h _ this hp];exact hc
theorem nL.raw {b:Nat} {w w':World} (h:nL b w w') {a:Option Addr} {k c n:Nat} (hr:Raw w a k c n) (hb: ∀x,a=some x→x.block≠b):Raw w' a k c n:=by
 obtain ⟨l,h1,h2,h3⟩:=hr
 exact ⟨l,h1,h2,h3.le,h3.cap,h3.short,h3.GJ,h3.small,fun i hi=>by
  obtain ⟨b',o,ha,hc⟩:=h3.cell i hi;exact ⟨b',o,ha,h.cell (p:=⟨b',o+i,none⟩) (show b'≠b from hb ⟨b',o,none⟩ ha) hc⟩⟩
theorem mR {α:Type} [Inhabited α] (enc:α→Value) (w:World) (blk off m:Nat) (d:Array α) (os:Array Obj):nL blk w (sortWorld enc w blk off m d os):=by
 intro k hk hne;unfold sortWorld;rw [heap_grow_old _ _ (by simpa [Sort.ahead]using hk)];unfold putRow mapBlock;simp [Array.getElem?_modify,Ne.symm hne,Sort.ahead]
def fX (fs:List Rat) (n:Nat):List (Fin n):=(List.finRange n).mergeSort (fun x y=> !(ltOf (fun a b:Fin n=>i7 fs a b) y x))
def tN (fs:List Rat) (n j:Nat):Nat:=((fX fs n)[j]?.map (·.val)).getD 0
structure DY (fs:List Rat) (n blk:Nat) (w w':World):Prop where
 cell: ∀j,j<n→w'.cell? ⟨blk,j,none⟩=some (.int .i64 (tN fs n j:Nat))
 agree:nL blk w w'
 size:w.heap.size≤w'.heap.size
 os:w'.os=w.os
 tape:w'.tape=w.tape
 output:w'.output=w.output
 drawn:w.drawn≤w'.drawn
def JL:Rat:=((281474976710656:Int):Rat)
def Yz (q:Rat):Prop:=q≤JL∧ -q≤JL
def YA (l:List Int):Int:=l.sum
def TE (qs:List Rat):List Rat:=qs.map fun q=>q-((q.floor:Int):Rat)
def JM (fs:List Rat) (n:Nat) (l:List Int):Nat→List Int
 |0=>l
 |t+1=>(JM fs n l t).set (tN fs n t) ((JM fs n l t)[tN fs n t]?.getD 0+1)
def JN (l:List Int) (w:World) (e:Ending) (w':World):Prop:= ∃b,e= .returned (.tuple #[.slice (some ⟨b,0,none⟩) l.length l.length,.int .i64 0])∧w.heap.size≤b∧aJ w' b 3 (lQ l)∧Ext w w'
theorem vI (l:List Rat):o8 (l.take 0)=0:=rfl
theorem Ch (l:List Rat) (L:Nat) (h: ∀i (hi:i<l.length),oB l[i]≤L): ∀i,i≤l.length→oB (o8 (l.take i))≤i*(L+1)+1:=by
 intro i;induction i with
 |zero=>intro _;rw [vI,Nat.zero_mul,Nat.zero_add];show oB (((0:Int):Rat))≤1;rw [Lv];decide
 |succ i ih=>
  intro hi;rw [Gc (by omega)];have h1:=ih (by omega);have h2:=h i (by omega);have h3:=EN (o8 (l.take i)) l[i];rw [Nat.succ_mul];omega
def vJ (qs:List Rat):List Int:=JM (TE qs) qs.length (qs.map Rat.floor) ((o8 qs).floor-YA (qs.map Rat.floor)).toNat
theorem mG (fs:List Rat) (n:Nat):(fX fs n).Perm (List.finRange n):=List.mergeSort_perm _ _
theorem iY (fs:List Rat) (n:Nat):(fX fs n).length=n:=by simpa using(mG fs n).length_eq
theorem vK (fs:List Rat) (n:Nat):(fX fs n).Pairwise (fun(x y:Fin n)=> ¬lG fs y x):=by
 have e: ∀a b:Fin n,(!(ltOf (fun a b:Fin n=>i7 fs a b) b a))=true↔ ¬lG fs b a:=by
  intro a b;unfold ltOf;rw [Bool.not_eq_true',decide_eq_false_iff_not,qC]
 have:=List.pairwise_mergeSort (le:=fun x y:Fin n=> !(ltOf (fun a b:Fin n=>i7 fs a b) y x)) (fun a b c h1 h2=>by
  rw [e]at*;exact sY h2 h1) (fun a b=>by
  rw [Bool.or_eq_true,e,e];by_cases h:lG fs b a
  ·right;intro h2;exact sX fs _ (pw h h2)
  ·left;exact h) (List.finRange n)
 exact this.imp (fun{a b} h=>(e a b).1 h)
theorem qD (fs:List Rat) (n j:Nat) (h:j<(fX fs n).length):tN fs n j=((fX fs n)[j]).val:=by
 unfold tN;rw [List.getElem?_eq_getElem h];rfl
theorem JO (fs:List Rat) (n j k:Nat) (hj:j<n) (hk:k<n) (h:tN fs n j=tN fs n k):j=k:=by
 have hl:=iY fs n;rw [qD fs n j (by omega),qD fs n k (by omega)]at h;have hn:(fX fs n).Nodup:=(mG fs n).nodup_iff.2 (List.nodup_finRange n);have hp:=List.pairwise_iff_getElem.1 hn;have he:=Fin.ext h;rcases Nat.lt_trichotomy j k with h1|h1|h1
 ·exact absurd he (hp j k (by omega) (by omega) h1)
 ·exact h1
 ·exact absurd he.symm (hp k j (by omega) (by omega) h1)
theorem Gr (fs:List Rat) (n j k:Nat) (hj:j<k) (hk:k<n):lG fs (tN fs n j) (tN fs n k):=by
 have hl:=iY fs n;have h1:=List.pairwise_iff_getElem.1 (vK fs n) j k (by omega) (by omega) hj;rw [←qD,←qD]at h1;refine Classical.byContradiction fun h2=> ?_;have:=JO fs n j k (by omega) hk (px fs _ _ h2 h1);omega
def yl (T:Int) (qs:List Rat):List Int:=vJ (qs.map fun q=>((T:Int):Rat)/o8 qs*q)
theorem gW.keep {w w':World} {r:ct} {q:Rat} {L:Nat} {row:Option Nat} (h:gW w r q L) (hb: ∀k,k<w.heap.size→some k≠row→w'.heap[k]?=w.heap[k]?) (ho:OO r row):gW w' r q L:=by
 have key: ∀{a:Option Addr} {k c n:Nat},Raw w a k c n→(0<k→ ∀x,a=some x→some x.block≠row)→Raw w' a k c n:=by
  intro a k c n hr ho;obtain ⟨l,e1,e2,e3⟩:=hr;refine ⟨l,e1,e2,e3.le,e3.cap,e3.short,e3.GJ,e3.small,fun i hi=> ?_⟩;obtain ⟨b',o,ha,hc⟩:=e3.cell i hi;refine ⟨b',o,ha,?_⟩;have hlt:=bm hc;unfold World.cell? at*;rw [hb _ hlt (ho (by omega) ⟨b',o,none⟩ ha)];exact hc
 obtain ⟨n,m,g1,g2,g3⟩:=h;exact ⟨n,m,key g1 ho.1,key g2 ho.2,g3⟩
theorem OO.next {w:World} {r:ct} {q:Rat} {L:Nat} {v v':Value} (ho:OO r v.ownBlock) (h:gW w r q L) (hv:v'.ownBlock=v.ownBlock∨ ∃g,v'.ownBlock=some g∧w.heap.size≤g):OO r v'.ownBlock:=by
 obtain ⟨n,m,g1,g2,g3⟩:=h;rcases hv with hv|⟨g,hg,hs⟩
 ·rw [hv];exact ho
 ·rw [hg]
  constructor
  ·intro hk x hx e;cases e;have:=g1.lt hk x hx;omega
  ·intro hk x hx e;cases e;have:=g2.lt hk x hx;omega
theorem gU.snoc {w wr w':World} {v v':Value} {rs:List ct} {qs:List Rat} {L:Nat} {r:ct} {q:Rat} (h:gU w wr v rs qs L) (hr:gW wr r q L) (hro:OO r v.ownBlock)
 (ho:w'.ownsRow w.heap.size 119 3 v' (rs.length+1) (dL rs++r.cells)) (hX:Ext w w') (hb: ∀k,k<wr.heap.size→some k≠v.ownBlock→w'.heap[k]?=wr.heap[k]?)
 (hv:v'.ownBlock=v.ownBlock∨ ∃g,v'.ownBlock=some g∧wr.heap.size≤g):gU w w' v' (rs++ [r]) (qs++ [q]) L:=by
 have hl:=h.len;refine ⟨by simp [hl],by rw [xg,List.length_append];exact ho,?_,?_,hX⟩
 ·intro k hk
  rw [List.length_append,List.length_singleton]at hk;by_cases vV:k<rs.length
  ·rw [List.getElem_append_left vV,List.getElem_append_left (by omega)]
   exact (h.num k vV).keep hb (h.off k vV)
  ·obtain rfl:k=rs.length:=by omega
   rw [List.getElem_append_right (Nat.le_refl _),List.getElem_append_right (by omega)];simp only [hl,Nat.sub_self,List.getElem_singleton];exact hr.keep hb hro
 ·intro k hk
  rw [List.length_append,List.length_singleton]at hk;by_cases vV:k<rs.length
  ·rw [List.getElem_append_left vV]
   exact (h.off k vV).next (h.num k vV) hv
  ·obtain rfl:k=rs.length:=by omega
   rw [List.getElem_append_right (Nat.le_refl _)];simp only [Nat.sub_self,List.getElem_singleton];exact hro.next hr hv
open Go.ChangeShapes Go.WideShapes Go.ChangeAt
theorem j3.snoc {rs:List ct} {L:Nat} (h:j3 rs L) {r:ct} (h1:r.k≤L) (h2:r.j≤L):j3 (rs++ [r]) L:=by
 intro k hk;rw [List.length_append,List.length_singleton]at hk;by_cases vV:k<rs.length
 ·rw [List.getElem_append_left vV];exact h k vV
 ·obtain rfl:k=rs.length:=by omega
  rw [List.getElem_append_right (Nat.le_refl _)];simp only [Nat.sub_self,List.getElem_singleton];exact ⟨h1,h2⟩
theorem Tryz.sortL0:Go.Proofs.SlLaysF0.n6 Tryz.prog Tryz.sortL_ren:={Tryz.sortL with}
open Classical in
noncomputable def TG (qs:List Rat):Int:=if 128<qs.length∨(∃q∈qs,¬Yz q)then 8 else if o8 qs=(((o8 qs).floor:Int):Rat)then 0 else 14
def MV (qs:List Rat) (w:World) (e:Ending) (w':World):Prop:=
 (TG qs=0∧JN (vJ qs) w e w')∨(¬TG qs=0∧e= .returned (.tuple #[.slice none 0 0,.int .i64 (TG qs)])∧Ext w w')
open Go.Deep
open Classical in
noncomputable def O_ (qs:List Rat):Nat:=if TG qs=0 then(vJ qs).length else 0
def TH (qs:List Rat) (w:World) (e:Ending) (w':World):Prop:=
 ∃pa pc,e= .returned (.tuple #[.slice pa (O_ qs) pc,.int .i64 (TG qs)])∧(O_ qs=0∨(O_ qs=(vJ qs).length∧qQ w' pa (vJ qs)))∧Ext w w'
theorem MV.val {qs:List Rat} {w w':World} {e:Ending} (h:MV qs w e w'):TH qs w e w':=by
 rcases h with⟨h0,b,he,_,hA,hx⟩|⟨h0,he,hx⟩
 ·have hn:O_ qs=(vJ qs).length:=by unfold O_;rw [if_pos h0]
  refine ⟨some ⟨b,0,none⟩,(vJ qs).length,?_,Or.inr ⟨hn,B6 hA⟩,hx⟩;rw [he,hn,h0]
 ·have hn:O_ qs=0:=by unfold O_;rw [if_neg h0]
  refine ⟨none,0,?_,Or.inl hn,hx⟩;rw [he,hn]
def TI (w:World) (j:Nat) (v:Value) (wr:World):Prop:=
 (j=0∧ ∃a c rs qs,v= .slice a rs.length c∧og wr a c rs qs 4∧j3 rs 4∧rs.length≤30∧(a=none→c=0)∧Ext w wr)
 ∨(j=1∧ ∃rs qs,gU w wr v rs qs 200∧j3 rs 200∧0<rs.length∧rs.length≤31)
 ∨(j=2∧ ∃n xs,wr.ownsRow w.heap.size 119 3 v n xs∧0<n∧n≤32∧Ext w wr)
theorem TI.next {w w4 w8:World} {j:Nat} {v2:Value} {rs:List ct} {qs:List Rat} {L:Nat} {r:ct} (hj:j<2) (hx:Ext w w4) (hn:rs.length≤30+j) (hL:L≤200) (hj0:j=0→L=4) (hS:j3 rs L) (hq: ∀k (hk:k<qs.length),oB qs[k]≤max L 1) (hql:qs.length=rs.length)
 (hrow:gU w4 w8 v2 (rs++ [r]) (qs++ [-(o8 qs)]) (max L (oB (-(o8 qs))))) (hr:r.k≤oB (-(o8 qs))∧r.j≤oB (-(o8 qs))):TI w (j+1) v2 w8:=by
 have hb:=hrow.base hx;rcases (show j=0∨j=1 by omega)with rfl|rfl
 ·refine Or.inr (Or.inl ⟨rfl,rs++ [r],_,hb.mono ?_,?_,by simp,by simp;omega⟩)
  ·have h5:=Ch qs (L+1) (fun k hk=>by have:=hq k hk;omega) qs.length (Nat.le_refl _)
   rw [List.take_length,hql]at h5;rw [zk];obtain rfl:=hj0 rfl;have:=Nat.mul_le_mul_right (4+1+1) hn;omega
  ·have h5:=Ch qs (L+1) (fun k hk=>by have:=hq k hk;omega) qs.length (Nat.le_refl _)
   rw [List.take_length,hql]at h5;rw [zk]at hr;obtain rfl:=hj0 rfl;have:=Nat.mul_le_mul_right (4+1+1) hn;exact (hS.mono (by omega)).snoc (by omega) (by omega)
 ·refine Or.inr (Or.inr ⟨rfl,_,_,hb.own,by simp,by simp;omega,hb.ext⟩)
open Classical in
noncomputable def TJ (T:Int) (qs:List Rat):Int:=if 128<qs.length∨281474976710656<T∨T< -281474976710656 then 8 else if∃q∈qs,q<0 then 3 else if o8 qs=0 then 20 else 0
def MW (T:Int) (qs:List Rat) (w:World) (e:Ending) (w':World):Prop:=
 (TJ T qs=0∧JN (yl T qs) w e w')∨(¬TJ T qs=0∧e= .returned (.tuple #[.slice none 0 0,.int .i64 (TJ T qs)])∧Ext w w')
open Go
theorem kT (x:ct) (l:List ct):dL (x::l)= .bool x.s:: .slice x.a x.k x.c:: .slice x.b x.j x.d::dL l:=rfl
theorem zN (rs:List ct) (j:Nat) (r:ct):dL (rs.set j r)=(((dL rs).set (j*3) (.bool r.s)).set (j*3+1) (.slice r.a r.k r.c)).set (j*3+2) (.slice r.b r.j r.d):=by
 induction rs generalizing j with
 |nil=>simp [dL]
 |cons x l ih=>
  cases j with
  |zero=>simp [kT]
  |succ j=>
   rw [List.set_cons_succ,kT,ih,kT,show(j+1)*3=j*3+3 by omega];simp [List.set_cons_succ]
def rW (w:World) (g j:Nat) (r:ct):World:=((w.setCell ⟨g,j*3,none⟩ (.bool r.s)).setCell ⟨g,j*3+1,none⟩ (.slice r.a r.k r.c)).setCell ⟨g,j*3+2,none⟩ (.slice r.b r.j r.d)
theorem zO (w:World) (g j:Nat) (r:ct) (k:Nat) (hk:k≠g):(rW w g j r).heap[k]?=w.heap[k]?:=by
 unfold rW;rw [Below.heap_setCell _ _ _ _ (by simpa using hk),Below.heap_setCell _ _ _ _ (by simpa using hk),Below.heap_setCell _ _ _ _ (by simpa using hk)]
theorem DZ {w0 w:World} {g:Nat} (h:Ext w0 w) (hg:w0.heap.size≤g) (j:Nat) (r:ct):Ext w0 (rW w g j r):=
 ((h.setCell (p:=⟨g,j*3,none⟩) hg _).setCell (p:=⟨g,j*3+1,none⟩) hg _).setCell (p:=⟨g,j*3+2,none⟩) hg _
theorem gU.put {w wr:World} {g n cap:Nat} {rs:List ct} {qs:List Rat} {L:Nat} (h:gU w wr (.slice (some ⟨g,0,none⟩) n cap) rs qs L) (j:Nat) {r:ct} {q:Rat} (hr:gW wr r q L) (ho:OO r (some g)):
 gU w (rW wr g j r) (.slice (some ⟨g,0,none⟩) n cap) (rs.set j r) (qs.set j q) L:=by
 obtain ⟨h1,h2⟩:=h.own;have hl:=h.len;rcases h2 with⟨h2,_⟩|⟨g',cap',cur,hv,hb,hg,hn,dy,hcs,uo⟩
 ·cases h2
 ·cases hv
  have hA:aJ wr g 119 cur.toList:=by unfold aJ;simpa using hg
  have hA':aJ (rW wr g j r) g 119 (((cur.toList.set (j*3) (.bool r.s)).set (j*3+1) (.slice r.a r.k r.c)).set (j*3+2) (.slice r.b r.j r.d)):=((hA.set _ _).set _ _).set _ _;have MX: ∀k,k<wr.heap.size→some k≠some g→(rW wr g j r).heap[k]?=wr.heap[k]?:=fun k _ hne=>zO wr g j r k (fun e=>hne (by rw [e]));refine ⟨by simp [hl],⟨by rw [mP],.inr ⟨g,cap,_,by rw [List.length_set],hb,hA',by rw [List.length_set];exact hn,dy,by simpa using hcs,?_⟩⟩,?_,?_,DZ h.ext hb j r⟩
  ·rw [zN,List.length_set,←uo]
   simp [List.take_set]
  ·intro k hk
   rw [List.length_set]at hk;by_cases hkj:j=k
   ·subst hkj
    rw [List.getElem_set_self,List.getElem_set_self];exact hr.keep MX ho
   ·rw [List.getElem_set_ne hkj,List.getElem_set_ne hkj]
    exact (h.num k hk).keep MX (h.off k hk)
  ·intro k hk
   rw [List.length_set]at hk;by_cases hkj:j=k
   ·subst hkj
    rw [List.getElem_set_self];exact ho
   ·rw [List.getElem_set_ne hkj];exact h.off k hk
open Classical in
noncomputable def Pa (T:Int) (qs:List Rat):Nat:=if TJ T qs=0 then(yl T qs).length else 0
theorem MW.val {T:Int} {qs:List Rat} {w w':World} {e:Ending} (h:MW T qs w e w'): ∃pa pc,e= .returned (.tuple #[.slice pa (Pa T qs) pc,.int .i64 (TJ T qs)])∧(Pa T qs=0∨(Pa T qs=(yl T qs).length∧qQ w' pa (yl T qs)))∧Ext w w':=by
 rcases h with⟨h0,b,he,_,hA,hx⟩|⟨h0,he,hx⟩
 ·have hn:Pa T qs=(yl T qs).length:=by unfold Pa;rw [if_pos h0]
  refine ⟨some ⟨b,0,none⟩,(yl T qs).length,?_,Or.inr ⟨hn,B6 hA⟩,hx⟩;rw [he,hn,h0]
 ·have hn:Pa T qs=0:=by unfold Pa;rw [if_neg h0]
  refine ⟨none,0,?_,Or.inl hn,hx⟩;rw [he,hn]
def D5 (lo hi bK:Nat→Int) (m:Int→Int) (i:Nat):Int:=min (m (bK i)) (hi i-lo i)
def MZ (lo hi bK:Nat→Int) (m:Int→Int) (i:Nat):Int→Int:=upd m (bK i) (m (bK i)-D5 lo hi bK m i)
def fY (t:Nat→Rat) (lo hi bK:Nat→Int):List Nat→(Int→Int)→Rat
 | [],_=>0
 |i::l,m=>t i*((lo i+D5 lo hi bK m i:Int):Rat)+fY t lo hi bK l (MZ lo hi bK m i)
def kq (bK f:Nat→Int) (k:Int):List Nat→Int
 | []=>0
 |i::l=>(if bK i=k then f i else 0)+kq bK f k l
open Go.Maps Go.ChangeMaps Go.MapKept
theorem Tryz.zeroI (w:World):(zeroValue 3).run Tryz.prog w= .ok (.int .i64 0) w:=by kernel_rfl
theorem sZ {k:Int} (h:(Lit.int .i64 k).wf=true):bp k:=by
 simp [Lit.wf,IntKind.min,IntKind.max,IntKind.signed,IntKind.bits]at h;exact ⟨by omega,by omega⟩
theorem om.arr {b g:Nat} {w w':World} (t:om b w w') {T:TypeId} {vs:List Value} (hg:g≠b) (h:aJ w g T vs):aJ w' g T vs:=by
 unfold aJ;rw [t.block _ hg];exact h
theorem cZ.made (w:World):cZ (w.alloc (.map #[] 0)) w.heap.size 0 (fun _=>False) (fun _=>0):=
 ⟨.map [],World.ownsMap_made _ _ _ _,fun k=>by simp [Maps.has],fun k=>by simp [DataW.atKey]⟩
theorem cZ.turn {w w':World} {b g n:Nat} {K:Int→Prop} {f:Int→Int} (h:cZ w b n K f) (t:om g w w') (hg:b≠g):cZ w' b n K f:=h.same (t.block b hg)
theorem cZ.keys {w:World} {b n:Nat} {K K':Int→Prop} {f f':Int→Int} (h:cZ w b n K f) (hK: ∀k,K k↔K' k) (hf: ∀k,f k=f' k):cZ w b n K' f':=by
 obtain ⟨D,h1,h2,h3⟩:=h;exact ⟨D,h1,fun k=>(h2 k).trans (hK k),fun k=>by rw [h3,hf]⟩
theorem cZ.look {w:World} {b n:Nat} {K:Int→Prop} {f:Int→Int} (h:cZ w b n K f) {k:Int} (hk:bp k):(Instr.lookup 181 (.map (some b)) (.int .i64 k) false).run prog w= .ok (.int .i64 (f k)) w:=by
 obtain ⟨D,h1,h2,h3⟩:=h;obtain ⟨c,hr,hc,_⟩:=h1.lookup_int Tryz.keyI underlying181 underlying3 (Tryz.zeroI w) (keyOf_int_mk underlying3 hk.wf);rw [h3 k]at hc;cases hc
 exact hr
section
variable{ops:Array Oper} {rest:List Oper} {o:Oper} {a:Act} {Q:Exit→Act→World→Prop}
theorem rX (w:World) (hg:o.guard=none) (m x:Operand) (hop:o.op=Op.lookup 181 m x false) (b n:Nat) (K:Int→Prop) (f:Int→Int) (k:Int)
 (hm:a.eval m= .map (some b)) (hx:a.eval x= .int .i64 k) (h:cZ w b n K f) (hk:bp k) (hK:wpList prog ops Q rest (a.put o.dst (.int .i64 (f k))) w):wpList prog ops Q (o::rest) a w:=by
 refine wpList_plain hg fun K' hK'=> ?_;have hrun:=h.look hk;unfold Oper.wp;simp [execOp,hop,hm,hx,hrun,Result.andThen];exact hK' _ _ hK
theorem iu {K':Act→World→Prop} (w:World) (m x v:Operand) (hop:o.op=Op.mapUpdate 181 m x v) (b n:Nat) (K:Int→Prop) (f:Int→Int) (k u:Int)
 (hm:a.eval m= .map (some b)) (hx:a.eval x= .int .i64 k) (hv:a.eval v= .int .i64 u) (h:cZ w b n K f) (hn:n<1000000) (hk:bp k) (hu:bp u)
 (hK: ∀w',cZ w' b (n+1) (fun x=>x=k∨K x) (upd f k u)→om b w w'→K' (a.put o.dst undef) w'):Oper.wp prog o a w K' Q:=by
 obtain ⟨w',hrun,r1,r2⟩:=h.store hn hk hu;unfold Oper.wp;simp [execOp,hop,hm,hx,hv,hrun,Result.andThen];exact hK w' r1 r2
theorem qE (w:World) (hg:o.guard=none) (m x v:Operand) (hop:o.op=Op.mapUpdate 181 m x v) (b n:Nat) (K:Int→Prop) (f:Int→Int) (k u:Int)
 (hm:a.eval m= .map (some b)) (hx:a.eval x= .int .i64 k) (hv:a.eval v= .int .i64 u) (h:cZ w b n K f) (hn:n<1000000) (hk:bp k) (hu:bp u)
 (hK: ∀w',cZ w' b (n+1) (fun x=>x=k∨K x) (upd f k u)→om b w w'→wpList prog ops Q rest (a.put o.dst undef) w'):wpList prog ops Q (o::rest) a w:=
 wpList_plain hg fun _ hK'=>iu w m x v hop b n K f k u hm hx hv h hn hk hu (fun w' h1 h2=>hK' _ _ (hK w' h1 h2))
end
theorem kL.YB {w:World} {b r n cnt:Nat} {K left:Int→Prop} {f:Int→Int} (h:kL w b r n K f left cnt):cZ w b n K f:=by
 obtain ⟨D,lf,h1,h2,h3,_⟩:=h;exact ⟨D,h1.owns,h2,h3⟩
theorem kL.left_eq {w:World} {b r n cnt:Nat} {K left:Int→Prop} {f:Int→Int} (h:kL w b r n K f left cnt):w.rangeLeft b r=cnt:=by
 obtain ⟨D,lf,h1,_⟩:=h;exact h1.left_eq
theorem qF {w w':World} {b r n cnt:Nat} {D:DataW Unit} {lf:Lit→Bool} {ty:TypeId} {v:Value} (h:w.ranges prog 3 (plainElem prog 3) b r n D lf cnt)
 (hrun:(Instr.next (.pointer (some ⟨r,0,none⟩)) false ty).run prog w= .ok v w'):w.drawn≤w'.drawn:=by
 obtain ⟨es,clock,since,seen,c0,hb,F,hs,rfl,hr,hold,_,_,_,hsc,_⟩:=h;rcases run_next_at (P:=prog) w ty r b since c0 seen es clock hr hb hold hsc with⟨_,h2⟩|⟨e,_,w1,hw,h2⟩
 ·rw [hrun]at h2;cases h2;exact Nat.le_refl _
 ·rw [hrun]at h2;cases h2
  rcases hw with rfl|rfl
  ·exact Nat.le_refl _
  ·exact Nat.le_succ _
section
variable{ops:Array Oper} {rest:List Oper} {o:Oper} {a:Act} {Q:Exit→Act→World→Prop}
theorem kG (w:World) (hg:o.guard=none) (m:Operand) (hop:o.op=Op.range 181 m) (b n:Nat) (K:Int→Prop) (f:Int→Int) (hm:a.eval m= .map (some b)) (h:cZ w b n K f)
 (hK: ∀w' cnt,kL w' b w.heap.size n K f K cnt→Ext w w'→w'.heap.size=w.heap.size+1→wpList prog ops Q rest (a.put o.dst (.pointer (some ⟨w.heap.size,0,none⟩))) w'):
 wpList prog ops Q (o::rest) a w:=by
 obtain ⟨D,h1,h2,h3⟩:=h;refine wpList_plain hg fun K' hK'=> ?_;obtain ⟨w',hrun,r1,r2,r3⟩:=h1.range Tryz.keyI underlying181
 have hx:Ext w w':=by
  obtain ⟨es,clock,hb,_⟩:=h1;rw [run_range_map w 181 3 3 b es clock underlying181 hb]at hrun;cases hrun
  exact (Ext.refl _).alloc _
 unfold Oper.wp;simp [execOp,hop,hm,hrun,Result.andThen];exact hK' _ _ (hK w' _ ⟨D,_,r1,h2,h3,h2⟩ hx r3)
theorem lH (w:World) (hg:o.guard=none) (it:Operand) (hop:o.op=Op.next it false) (b r n:Nat) (K:Int→Prop) (f:Int→Int) (left:Int→Prop) (cnt:Nat) (hit:a.eval it= .pointer (some ⟨r,0,none⟩)) (h:kL w b r n K f left cnt)
 (hDone:(∀k,¬left k)→wpList prog ops Q rest (a.put o.dst (.tuple #[.bool false])) w)
 (hMore: ∀(x:Int) (w':World) (cnt':Nat),bp x→left x→bp (f x)→kL w' b r n K f (fun k=>left k∧k≠x) cnt'→cnt'<cnt→om r w w'→(Instr.entry (.pointer (some ⟨r,0,none⟩))).run prog w'= .ok (.tuple #[.int .i64 x,.int .i64 (f x)]) w'→
   wpList prog ops Q rest (a.put o.dst (.tuple #[.bool true,.int .i64 x,.int .i64 (f x)])) w'):
 wpList prog ops Q (o::rest) a w:=by
 obtain ⟨D,lf,h1,h2,h3,h4⟩:=h;refine wpList_plain hg fun K' hK'=> ?_;unfold Oper.wp;rcases h1.next Tryz.keyI o.type with⟨h0,hl,hrun⟩|⟨key,v,kl,y,w',cnt',hkey,hlk,hv,hat,hrun,hrg,hlt,hgr,hsz,hen⟩
 ·simp [execOp,hop,hit,hrun,Result.andThen]
  exact hK' _ _ (hDone (fun k hk=>by have:=(h4 k).2 hk;rw [hl]at this;cases this))
 ·obtain ⟨x,rfl,rfl,hwx⟩:=Maps.keyOf_int_inv underlying3 hkey
  obtain ⟨c,rfl,rfl,hwc⟩:=plainElem_int_inv underlying3 hv
  have hcf:c=f x:=by
   have e1:=h3 x;rw [hat]at e1;cases e1;rfl
  subst hcf;have hdr:=qF h1 hrun;simp [execOp,hop,hit,hrun,Result.andThen];refine hK' _ _ (hMore x w' cnt' (sZ hwx) ((h4 x).1 hlk) (sZ hwc) ⟨D,_,hrg,h2,h3,fun k=> ?_⟩ hlt ⟨hgr.os,hgr.tape,hgr.output,hdr,hsz,fun k hk=> ?_⟩ hen)
  ·by_cases hk:k=x
   ·subst hk
    rw [WideAt.sameKey_self CG];simp
   ·rw [sameKey_ne (int_ne hk)]
    simp [hk,h4 k]
  ·by_cases YC:k<w.heap.size
   ·exact hgr.block k YC (fun e=>hk (by cases e;rfl))
   ·rw [Array.getElem?_eq_none (by omega),Array.getElem?_eq_none (by omega)]
end
def qG (l:List Rat) (i:Nat):Rat:=l[i]?.getD 0
theorem Pc {l:List Rat} {i:Nat} (h:i<l.length):qG l i=l[i]:=by unfold qG;rw [List.getElem?_eq_getElem h];rfl
def D6 (w:World) (r:ct) (q:Rat):Prop:= ∃n m,Raw w r.a r.k r.c n∧Raw w r.b r.j r.d m∧q=mkRat (bA r.s n) m∧n<2147483648∧m<2147483648
theorem D6.keeps {w w':World} {r:ct} {q:Rat} (h:D6 w r q) (e:gi w w'):D6 w' r q:=by
 obtain ⟨n,m,h1,h2,h3⟩:=h;exact ⟨n,m,h1.keeps e,h2.keeps e,h3⟩
theorem cT.TK {w:World} {r:ct} {q:Rat} {B:Nat} (h:cT w r q B) (h1:q.num.natAbs<2147483648) (h2:q.den<2147483648):D6 w r q:=
 ⟨_,_,h.num,h.den,by rw [h.s,jY,Rat.mkRat_self],h1,h2⟩
def Qt (q:Rat) (k:Nat):Prop:= ∃z:Int,q=mkRat z 4∧z.natAbs≤k
theorem Qt.sm {q:Rat} {k:Nat} (h:Qt q k):q.num.natAbs≤k∧q.den≤4:=by
 obtain ⟨z,e,hz⟩:=h;obtain ⟨n,d,h0,hc⟩:=q;obtain ⟨m,hm,h1,h2⟩:=Rat.mkRat_num_den (by decide) e.symm;have h3:z.natAbs=n.natAbs*m:=by rw [h1,Int.natAbs_mul,Int.natAbs_natCast]
 have h4:n.natAbs*1≤n.natAbs*m:=Nat.mul_le_mul_left _ (by omega);have h5:d*1≤d*m:=Nat.mul_le_mul_left _ (by omega);exact ⟨by show n.natAbs≤k;omega,by show d≤4;omega⟩
theorem Qt.add {p q:Rat} {a b:Nat} (h:Qt p a) (g:Qt q b):Qt (p+q) (a+b):=by
 obtain ⟨x,rfl,hx⟩:=h;obtain ⟨y,rfl,hy⟩:=g
 exact ⟨x+y,(mkRat_add_same x y 4 (by decide)).symm,by omega⟩
theorem Qt.mul {p:Rat} {a:Nat} {x:Int} (h:Qt p a) {b:Nat} (hx:x.natAbs≤b):Qt (p*(x:Rat)) (a*b):=by
 obtain ⟨y,rfl,hy⟩:=h;refine ⟨y*x,?_,?_⟩
 ·rw [←Rat.mkRat_one x,Rat.mkRat_mul_mkRat,Nat.mul_one]
 ·rw [Int.natAbs_mul];exact Nat.mul_le_mul hy hx
def D7 (w:World) (b B1 cn:Nat) (t:Nat→Rat) (lo hi bK:Nat→Int) (os:List Nat) (LZ:Rat) (j:Nat) (wr:World):Prop:=
 ∃(r:ct) (S:Rat) (K:Int→Prop) (f:Int→Int),aJ wr B1 119 r.cells∧cT wr r S (w.heap.size+1)∧Qt S (400*j)∧cZ wr b (cn+j) K f∧(∀k,0≤f k∧f k≤1099511627776)∧S+fY t lo hi bK (os.drop j) f=LZ∧ar b w wr∧aJ wr w.heap.size 119 [.bool false,.slice none 0 0,.slice none 0 0]
theorem Gs (w:World) (ta la ha ia oa:Option Addr) (tc lc hc ic oc L n b cn:Nat) (rs:List ct) (qs:List Rat) (lo hi bK:List Int) (os:List Nat) (K0:Int→Prop) (f0:Int→Int)
 (hR:og w ta tc rs qs L) (qN:aD w la lc lo) (Fa:aD w ha hc hi) (iG:aD w ia ic bK) (Pe:aD w oa oc (os.map fun(i:Nat)=>(i:Int))) (hM:cZ w b cn K0 f0)
 (n1:rs.length=n) (n2:lo.length=n) (n3:hi.length=n) (n4:bK.length=n) (Tl: ∀i∈os,i<n) (hn:os.length≤40) (Bj:cn≤1000) (hsm: ∀i (h:i<rs.length),D6 w rs[i] (qG qs i)) (TL: ∀i,Qt (qG qs i) 4)
 (hb1: ∀i,i<n→ -100≤aR lo i∧aR lo i≤aR hi i∧aR hi i≤100) (hf: ∀k,0≤f0 k∧f0 k≤1099511627776):
 Calls prog 125 #[.slice ta n tc,.slice la n lc,.slice ha n hc,.slice ia n ic,.slice oa os.length oc,.map (some b)] w fun e w'=> ∃r:ct,e= .returned (.agg #[.bool r.s,.slice r.a r.k r.c,.slice r.b r.j r.d])∧cT w' r (fY (qG qs) (aR lo) (aR hi) (aR bK) os f0) w.heap.size∧ar b w w':=by
 have hMl:=hM.lt;obtain ⟨LZ,JP⟩: ∃LZ,LZ=fY (qG qs) (aR lo) (aR hi) (aR bK) os f0:=⟨_,rfl⟩;rw [←JP];have TM:=hR.le;have M0:=hR.cap;have Kf:=qN.le;have hl2:=qN.cap;have Xo:=Fa.le;have Ik:=Fa.cap;have hi1:=iG.le;have Le:=iG.cap;have YD:=Pe.le;have O4:=Pe.cap
 rw [List.length_map]at YD;have wb:=ae hsm;have YE:=ae TL;have HB:=ae hb1;have HF:=ae hf;have HOS:=ae Tl;have TN:=ae JP;have HM:=ae hM
 have HR:=ae hR;have Ky:=ae qN;have Kz:=ae Fa;have wA:=ae iG;have GZ:=ae Pe
 clear hsm TL hb1 hf Tl JP hM hR qN Fa iG Pe;go_enter func125,ntmps125
 go_wp2_with fail
 obtain ⟨W,hW,x0,Z0,A0⟩:=aH w 119 [.bool false,.slice none 0 0,.slice none 0 0];rw [←hW];clear hW;refine (sU _ _ (by decide) (by decide)).mono ?_;intro e w1 hN;obtain ⟨r1,rfl,hr1,hx1⟩:=hN.qp;have z0:=(A0.ext hx1).lt;go_wp2_with fail
 obtain ⟨w2,hw2⟩: ∃w2,w2=w1.alloc (Obj.cells #[.bool r1.s,.slice r1.a r1.k r1.c,.slice r1.b r1.j r1.d] 119):=⟨_,rfl⟩;rw [←hw2];have E2:Ext w w2:=by rw [hw2];exact (x0.trans hx1).alloc _
 have P2:aJ w2 w1.heap.size 119 r1.cells:=by rw [hw2];exact aJ.alloc _ _ _
 have R2:cT w2 r1 0 (w.heap.size+1):=by rw [hw2,←Z0.o];exact hr1.ext ((Ext.refl _).alloc _)
 have C2:aJ w2 w.heap.size 119 [.bool false,.slice none 0 0,.slice none 0 0]:=by rw [hw2];exact (A0.ext hx1).ext ((Ext.refl _).alloc _)
 have q0:Qt 0 (400*0):=⟨0,by decide+kernel,by decide⟩;have SI:Hid (D7 w b w1.heap.size cn (qG qs) (aR lo) (aR hi) (aR bK) os LZ 0 w2):=⟨r1,0,K0,f0,P2,R2,q0,HM.o.ext E2,HF.o,by rw [List.drop_zero,TN.o,Rat.zero_add],E2.but b,C2⟩;clear hw2 hr1 hN P2 R2 C2 q0 A0 E2 hx1 x0;go_loopw [20] (fun ii wr=> ∃j:Nat,j≤os.length∧D7 w b w1.heap.size cn (qG qs) (aR lo) (aR hi) (aR bK) os LZ j wr∧ii= .int .i64 j) (fun ii _=>os.length-(intOf ii).toNat)
 case atStart=>exact ⟨0,Nat.zero_le _,SI.o,rfl⟩
 case round=>
  obtain ⟨j,hj,⟨r,S,K,f,hP,hS,Vi,hM,hf,hT,hE,hC⟩,rfl⟩:=hrel;by_cases hlt:j<os.length
  ·have Ym:os[j]<n:=HOS.o _ (List.getElem_mem hlt)
   have hK:=hE.keeps HM.o;obtain ⟨bo,oo,rfl,cO⟩:=(GZ.o.keeps hK).cell j (by rw [List.length_map];exact hlt);rw [List.getElem_map]at cO;obtain ⟨bl,ol,rfl,cL⟩:=(Ky.o.keeps hK).cell os[j] (by omega);obtain ⟨bh,oh,rfl,cH⟩:=(Kz.o.keeps hK).cell os[j] (by omega);obtain ⟨bi,oi,rfl,cI⟩:=(wA.o.keeps hK).cell os[j] (by omega);obtain ⟨bt,ot,rfl,c0,c1,c2⟩:=(HR.o.keeps hK).cell os[j] (by omega);have Pf:=wA.o.Nf os[j] (by omega);obtain ⟨YF,YG,YH⟩:=HB.o os[j] Ym;rw [df (by omega),df (by omega)]at YG;rw [df (by omega)]at YF YH;obtain ⟨nq,mq,g1,g2,gq,gl1,gl2⟩:=(wb.o os[j] (by omega)).keeps hK;have YI:=YE.o os[j];rw [List.drop_eq_getElem_cons hlt]at hT;have Qg:=hT;unfold fY at Qg;have eA:aR lo os[j]=lo[os[j]]:=df (by omega);have eB:aR hi os[j]=hi[os[j]]:=df (by omega);have eC:aR bK os[j]=bK[os[j]]:=df (by omega);have eQ:qG qs os[j]=qs[os[j]]'(by rw [HR.o.len];omega):=Pc (by rw [HR.o.len];omega);unfold MZ D5 at Qg;rw [eA,eB,eC,eQ]at Qg;rw [eQ]at gq YI;generalize qs[os[j]]'(by rw [HR.o.len];omega)=q at*;generalize lo[os[j]]=l at*;generalize hi[os[j]]=h at*;generalize bK[os[j]]=k at*;generalize rs[os[j]]=y at*;have hfk:=hf k;obtain ⟨x,hx⟩: ∃x,x=min (f k) (h-l):=⟨_,rfl⟩;have hx0:0≤x∧x≤f k∧x≤h-l:=by omega
   rw [←hx]at Qg;have rY:bp k:=Pf;have fK:IntKind.i64.wrap (h-l)=h-l:=by rw [IntKind.wrap_i64];omega
   have hw2:IntKind.i64.wrap (l+x)=l+x:=by rw [IntKind.wrap_i64];omega
   have HT:=ae Qg;have Gt:=ae hM;have HX:=ae hx;have iz:=ae hf;have HE:=ae hE;have HP:=ae hP;have HS:=ae hS;have HC:=ae hC;have HSz:=ae Vi;have JQ: ∀w',ar b wr w'→w'.cell? ⟨bl,ol+os[j],none⟩=some (.int .i64 l)∧w'.cell? ⟨bh,oh+os[j],none⟩=some (.int .i64 h)∧w'.cell? ⟨bi,oi+os[j],none⟩=some (.int .i64 k)∧w'.cell? ⟨bt,ot+os[j]*3,none⟩=some (.bool y.s)∧w'.cell? ⟨bt,ot+os[j]*3+1,none⟩=some (.slice y.a y.k y.c)∧w'.cell? ⟨bt,ot+os[j]*3+2,none⟩=some (.slice y.b y.j y.d):=fun V hV=>⟨hV.keeps hM _ _ cL,hV.keeps hM _ _ cH,hV.keeps hM _ _ cI,hV.keeps hM _ _ c0,hV.keeps hM _ _ c1,hV.keeps hM _ _ c2⟩;have vL:=ae JQ
   have hMu: ∀V,ar b wr V→ ∀(r':ct) (B:Nat),cT V r' (((l+x:Int)):Rat) B→Calls prog 177 #[.agg #[.bool y.s,.slice y.a y.k y.c,.slice y.b y.j y.d],.agg #[.bool r'.s,.slice r'.a r'.k r'.c,.slice r'.b r'.j r'.d]] V (bn (q*(((l+x:Int)):Rat)) V):=by
    intro V hV r' B ku;have h5:=wU V y.s _ _ _ _ _ _ _ _ (g1.keeps (hV.keeps hM)) (g2.keeps (hV.keeps hM)) r'.s _ _ _ _ _ _ _ _ ku.num ku.den gl1 gl2 (by rw [Rat.num_intCast];omega) (by rw [Rat.den_intCast];decide);rw [←gq,ku.s,jY,Rat.mkRat_self]at h5;rw [ku.s];exact h5
   have Oe:Qt (q*(((l+x:Int)):Rat)) 400:=YI.mul (b:=100) (by omega)
   have hAd: ∀V,ar b wr V→ ∀(r':ct) (B:Nat),cT V r' (q*(((l+x:Int)):Rat)) B→Calls prog 164 #[.agg #[.bool r.s,.slice r.a r.k r.c,.slice r.b r.j r.d],.agg #[.bool r'.s,.slice r'.a r'.k r'.c,.slice r'.b r'.j r'.d]] V (bn (S+q*(((l+x:Int)):Rat)) V):=by
    intro V hV r' B ku;have hr:=hS.keeps (hV.keeps hM);have a1:=Oe.sm;have a2:=Vi.sm
    have h5:=wY V r.s _ _ _ _ _ _ _ _ hr.num hr.den r'.s _ _ _ _ _ _ _ _ ku.num ku.den (by omega) (by omega);rw [hr.s,jY,Rat.mkRat_self,ku.s,jY,Rat.mkRat_self]at h5;rw [ku.s,hr.s];exact h5
   have HMu:=ae hMu;have HAd:=ae hAd;have HMZ:=ae Oe
   have f_:(0:Int)≤(os[j]:Int):=by omega
   have fU:(os[j]:Int)<(n:Int):=by omega
   have Nh:(j:Int)<(os.length:Int):=by omega
   clear JQ hMu hAd hT Qg hM hE hP hS hC hf hK gq g1 g2 hx Oe YI Vi eA eB eC eQ;clear cL cH cI c0 c1 c2;generalize Qp:os[j]=i at*;go_wp2_with fail
   have v0:ar b wr wr.drew:=(Ext.refl _).drew.but b;have hx:=HX.o.symm;refine dW (S:=fun w'=>w'.cell? ⟨bl,ol+i,none⟩=some (.int .i64 l)∧w'.cell? ⟨bh,oh+i,none⟩=some (.int .i64 h)∧w'.cell? ⟨bi,oi+i,none⟩=some (.int .i64 k)∧cZ w' b (cn+j) K f) (fun i=>false) (by kernel_rfl) (⟨(vL.o _ v0).1,(vL.o _ v0).2.1,(vL.o _ v0).2.2.1,Gt.o.same rfl⟩) (fun aq=> ?_);refine bT 0 aq ?_ (v:= .map (some b));refine bT 1 aq ?_;refine bT 2 aq ?_ (v:= .int .i64 (i:Int));refine bT 3 aq ?_;refine bT 4 aq ?_ (v:= .int .i64 k);refine bT 6 aq ?_;refine bT 7 aq ?_ (v:= .int .i64 (i:Int));refine bT 8 aq ?_;refine bT 9 aq ?_ (v:= .int .i64 h);refine bT 10 aq ?_;refine bT 11 aq ?_ (v:= .int .i64 (i:Int));refine bT 12 aq ?_;refine bT 13 aq ?_ (v:= .int .i64 l);refine bT 5 aq ?_ (v:= .int .i64 (f k)) (hy:=by intro w hSw;obtain ⟨e0,e1,e2,e3⟩:=hSw;have hl:=e3.look rY;go_simp);refine bT 14 aq ?_ (v:= .int .i64 (h-l));refine bT 15 aq ?_ (v:= .int .i64 x);refine bT 16 aq ?_ (v:= .int .i64 x);refine dV (by kernel_rfl) ?_ _;clear aq hx;have cI1:=(vL.o _ v0).2.2.1
   go_wp2_with (first
    |(at_lookup;refine rX _ rfl _ _ rfl b (cn+j) K f k rfl rfl (Gt.o.same rfl) rY ?_)
    |(at_mapUpdate;refine qE _ rfl _ _ _ rfl b (cn+j) K f k (f k-x) rfl rfl ?u1 (Gt.o.same rfl) ?u2 rY ?u3 ?_;rotate_right;intro w3 hM3 AH))
   case u1=>first|rfl|(congr 1;omega)
   case u2=>omega
   case u3=>unfold bp;omega
   clear cI1;have v3:ar b wr w3:=v0.trans AH.but;have sE:=HE.o.size;have sP:=HP.o.lt;have YJ:aJ w3 w1.heap.size 119 r.cells:=AH.arr (by omega) (show aJ wr.drew _ _ _ from HP.o);have hC3:aJ w3 w.heap.size 119 [.bool false,.slice none 0 0,.slice none 0 0]:=AH.arr (by omega) (show aJ wr.drew _ _ _ from HC.o)
   have TP: ∀w',Ext w3 w'→w'.cell? ⟨w1.heap.size,0,none⟩=some (.bool r.s)∧w'.cell? ⟨w1.heap.size,1,none⟩=some (.slice r.a r.k r.c)∧w'.cell? ⟨w1.heap.size,2,none⟩=some (.slice r.b r.j r.d)∧w'.frozen? ⟨w1.heap.size,0,none⟩=false∧w'.frozen? ⟨w1.heap.size,1,none⟩=false∧w'.frozen? ⟨w1.heap.size,2,none⟩=false∧w'.cell? ⟨bt,ot+i*3,none⟩=some (.bool y.s)∧w'.cell? ⟨bt,ot+i*3+1,none⟩=some (.slice y.a y.k y.c)∧w'.cell? ⟨bt,ot+i*3+2,none⟩=some (.slice y.b y.j y.d)∧w'.cell? ⟨bl,ol+i,none⟩=some (.int .i64 l):=fun V hV=>by
    obtain ⟨p0,p1,p2,p3,p4,p5⟩:=aC YJ hV;obtain ⟨a1,_,_,a4,a5,a6⟩:=vL.o _ (v3.trans (hV.but b));exact ⟨p0,p1,p2,p3,p4,p5,a4,a5,a6,a1⟩
   have gH:=ae TP;have Lk:=ae hM3;have HP3:=ae YJ;have PI:=ae hC3;have y0:Ext w3 w3.drew:=(Ext.refl _).drew;have HFI:=fun V=>sU V (l+x) (by omega) (by omega);have s3:=AH.size;clear TP hM3 YJ hC3 AH;go_wp2_with fail
   refine dW (S:=fun w'=>w'.cell? ⟨w1.heap.size,0,none⟩=some (.bool r.s)∧w'.cell? ⟨w1.heap.size,1,none⟩=some (.slice r.a r.k r.c)∧w'.cell? ⟨w1.heap.size,2,none⟩=some (.slice r.b r.j r.d)∧w'.frozen? ⟨w1.heap.size,0,none⟩=false∧w'.frozen? ⟨w1.heap.size,1,none⟩=false∧w'.frozen? ⟨w1.heap.size,2,none⟩=false∧w'.cell? ⟨bt,ot+i*3,none⟩=some (.bool y.s)∧w'.cell? ⟨bt,ot+i*3+1,none⟩=some (.slice y.a y.k y.c)∧w'.cell? ⟨bt,ot+i*3+2,none⟩=some (.slice y.b y.j y.d)∧w'.cell? ⟨bl,ol+i,none⟩=some (.int .i64 l)) (fun i=>i==14) (by kernel_rfl) (gH.o _ y0) (fun aq=> ?_);refine bT 0 aq ?_ (v:= .agg #[.bool r.s,.slice r.a r.k r.c,.slice r.b r.j r.d]);refine bT 1 aq ?_;refine bT 2 aq ?_ (v:= .int .i64 (i:Int));refine bT 3 aq ?_;refine bT 4 aq ?_ (v:= .agg #[.bool y.s,.slice y.a y.k y.c,.slice y.b y.j y.d]);refine bT 5 aq ?_;refine bT 6 aq ?_ (v:= .int .i64 (i:Int));refine bT 7 aq ?_;refine bT 8 aq ?_ (v:= .int .i64 l);refine bT 9 aq ?_ (v:= .int .i64 x);refine bT 10 aq ?_ (v:= .int .i64 (l+x));refine bZ (rs:= [11]) (by kernel_rfl) (by simp) ?_;refine aU.cons rfl (fun Kc hK=> ?_) aU.nil;go_simp;refine (HFI _).mono ?_;intro e z1 hN;obtain ⟨q1,rfl,mZ,x1⟩:=hN.qp;clear hN;have y1:=y0.trans x1;refine hK.o _ _ (gH.o _ y1) (fun aq=> ?_);clear hK Kc;try simp only [sS]
   refine bZ (rs:= [12]) (by kernel_rfl) (by simp) ?_;refine aU.cons rfl (fun Kc hK=> ?_) aU.nil;go_simp;refine (HMu.o _ (v3.trans (y1.but b)) _ _ mZ).mono ?_;intro e z2 hN;obtain ⟨q2,rfl,NY,x2⟩:=hN.qp;clear hN;have y2:=y1.trans x2;refine hK.o _ _ (gH.o _ y2) (fun aq=> ?_);clear hK Kc;try simp only [sS]
   refine bZ (rs:= [13]) (by kernel_rfl) (by simp) ?_;refine aU.cons rfl (fun Kc hK=> ?_) aU.nil;go_simp;refine (HAd.o _ (v3.trans (y2.but b)) _ _ NY).mono ?_;intro e z3 hN;obtain ⟨q3,rfl,FQ,x3⟩:=hN.qp;clear hN;have y3:=y2.trans x3;refine hK.o _ _ (gH.o _ y3) (fun aq=> ?_);clear hK Kc;try simp only [sS]
   obtain ⟨e0,e1,e2,e3,e4,e5,e6,e7,e8,e9⟩:=gH.o _ y3;refine bZ (rs:= [14]) (by kernel_rfl) (by simp) ?_;refine aU.last rfl rfl (fun Kc hK=> ?_) aU.nil;go_simp;refine hK.o _ _ ?_;clear hK Kc;try simp only [sS]
   refine dV (by kernel_rfl) ?_ _;clear aq e0 e1 e2 e3 e4 e5 e6 e7 e8 e9;have sy:=y3.size;have YK:w1.heap.size<z2.heap.size:=by have:=y2.size;have:=HP3.o.lt;omega
   have A6:=HP3.o.ext y3;have C6:=PI.o.ext y3;have M6:=Lk.o.ext y3;have E6:ar b w z3:=HE.o.trans (v3.trans (y3.but b));have TQ:Qt (S+q*(((l+x:Int)):Rat)) (400*(j+1)):=HSz.o.add HMZ.o
   have Ku:S+q*(((l+x:Int)):Rat)+fY (qG qs) (aR lo) (aR hi) (aR bK) (os.drop (j+1)) (upd f k (f k-x))=LZ:=by
    rw [Rat.add_assoc];exact HT.o
   have U5: ∀k',0≤upd f k (f k-x) k'∧upd f k (f k-x) k'≤1099511627776:=by
    intro k';by_cases vV:k'=k
    ·rw [vV,Ae];omega
    ·rw [xm _ _ _ _ vV];exact iz.o k'
   have YL:Hid (D7 w b w1.heap.size cn (qG qs) (aR lo) (aR hi) (aR bK) os LZ (j+1) (((z3.setCell ⟨w1.heap.size,0,none⟩ (.bool q3.s)).setCell ⟨w1.heap.size,1,none⟩ (.slice q3.a q3.k q3.c)).setCell ⟨w1.heap.size,2,none⟩ (.slice q3.b q3.j q3.d))):=
    ⟨q3,_,_,_,((A6.set 0 _).set 1 _).set 2 _,(((FQ.setCell ⟨w1.heap.size,0,none⟩ _ YK).setCell ⟨w1.heap.size,1,none⟩ _ YK).setCell ⟨w1.heap.size,2,none⟩ _ YK).mono (by omega),TQ,
      ((M6.setCell ⟨w1.heap.size,0,none⟩ _ (by simp only;omega)).setCell ⟨w1.heap.size,1,none⟩ _ (by simp only;omega)).setCell ⟨w1.heap.size,2,none⟩ _ (by simp only;omega),U5,Ku,
      ((E6.setCell (p:=⟨w1.heap.size,0,none⟩) (by simp only;omega) _).setCell (p:=⟨w1.heap.size,1,none⟩) (by simp only;omega) _).setCell (p:=⟨w1.heap.size,2,none⟩) (by simp only;omega) _,
      ((C6.other ⟨w1.heap.size,0,none⟩ _ (by simp only;omega)).other ⟨w1.heap.size,1,none⟩ _ (by simp only;omega)).other ⟨w1.heap.size,2,none⟩ _ (by simp only;omega)⟩
   clear A6 C6 M6 E6 FQ U5 Ku TQ;go_wp2_with fail
   exact ⟨⟨j+1,by omega,YL.o,by go_num⟩,by simp only [intOf];omega⟩
  ·obtain rfl:j=os.length:=by omega
   rw [List.drop_length]at hT;have hST:S=LZ:=by rw [←hT];unfold fY;rw [Rat.add_zero]
   subst hST;obtain ⟨p0,p1,p2,p3,p4,p5⟩:=aC hP (Ext.refl _);obtain ⟨q0,q1,q2,q3,q4,q5⟩:=aC hC (Ext.refl _);have sE:=hE.size;have sC:=hC.lt;clear SI HB HF HOS TN HR Ky Kz wA GZ hM hf hT Vi;go_wp2_with fail
   refine bodyPost_ret (by simp [results,results125,go_sem, *]) rfl ⟨r,rfl,?_,?_⟩
   ·exact (((hS.setCell ⟨w.heap.size,0,none⟩ _ (Nat.lt_succ_self _)).setCell ⟨w.heap.size,1,none⟩ _ (Nat.lt_succ_self _)).setCell ⟨w.heap.size,2,none⟩ _ (Nat.lt_succ_self _)).mono (Nat.le_succ _)
   ·exact ((hE.setCell (p:=⟨w.heap.size,0,none⟩) (Nat.le_refl _) _).setCell (p:=⟨w.heap.size,1,none⟩) (Nat.le_refl _) _).setCell (p:=⟨w.heap.size,2,none⟩) (Nat.le_refl _) _
end Go.Proofs.YtkpngkdgphojlaaGreat
