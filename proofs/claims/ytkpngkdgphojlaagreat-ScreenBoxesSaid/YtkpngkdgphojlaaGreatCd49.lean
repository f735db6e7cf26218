/- Texts of the proof. -/
import Derived.Shelf.SlMaps.Clone
import Derived.Shelf.SlicesE.Reverse
import Derived.Test.YtkpngkdgphojlaaGreatCd48
set_option linter.all false
set_option maxHeartbeats 8000000
set_option maxRecDepth 100000
namespace Go.Proofs.YtkpngkdgphojlaaGreat
open Go.Proofs.Tryz
open Go.RowKit Go.Sort Go.Shelf
theorem JR (p q:Rat):i6 (-q) (-p)=i6 p q:=by
 rcases my p q with h|h|h
 ·have h1:i6 (-q) (-p)<0:=ue.2 (by have:=ue.1 (show i6 p q<0 by omega);grind)
  rcases my (-q) (-p)with g|g|g<;>omega
 ·have h1:i6 (-q) (-p)=0:=n9.2 (by have:=n9.1 h;rw [this])
  omega
 ·have h1:0<i6 (-q) (-p):=zj.2 (by have:=zj.1 (show 0<i6 p q by omega);grind)
  rcases my (-q) (-p)with g|g|g<;>omega
def tO (ts:List Rat):List Rat:=ts.map fun q=> -q
theorem lI (ts:List Rat) (i:Nat):(tO ts)[i]?.getD 0= -(qG ts i):=by
 unfold tO qG;rw [List.getElem?_map];cases ts[i]? with
 |none=>simp
 |some q=>rfl
theorem JS (ts:List Rat) (x y:Nat):i7 (tO ts) x y=TD (i6 (qG ts x) (qG ts y)) (jM (x:Int) (y:Int)):=by
 unfold i7;rw [lI,lI,JR]
theorem Pg (w:World) (pb n L tc:Nat) (ta:Option Addr) (rs:List ct) (fs:List Rat) (hp:w.cell? ⟨pb,0,none⟩=some (.slice ta n tc)) (hR:og w ta tc rs fs L) (hn:rs.length=n) (hsm: ∀i (h:i<rs.length),D6 w rs[i] (qG fs i)) (x y:Nat) (hx:x<n) (hy:y<n):
 Calls prog 124 #[.int .i64 (x:Nat),.int .i64 (y:Nat),.pointer (some ⟨pb,0,none⟩)] w fun e w'=>e= .returned (.int .i64 (i7 (tO fs) x y))∧Ext w w':=by
 have PB:=hR.short;have hle:=hR.le;have dy:=hR.cap;obtain ⟨g,o,rfl,Ph,Qh,Qi⟩:=hR.cell x (by omega);obtain ⟨b2,o2,e2,Qj,Qk,Ql⟩:=hR.cell y (by omega);cases e2
 obtain ⟨n1,m1,r1,q1,v1,l1,l2⟩:=hsm x (by omega);obtain ⟨n2,m2,r2,q2,v2,l3,l4⟩:=hsm y (by omega);have hC:=fun V (hV:Ext w V)=>qm V rs[x].s _ _ _ _ _ _ _ _ (r1.ext hV) (q1.ext hV) rs[y].s _ _ _ _ _ _ _ _ (r2.ext hV) (q2.ext hV) ⟨⟨l1,l2⟩,l3,l4⟩;rw [←v1,←v2]at hC;rw [JS];generalize i6 (qG fs x) (qG fs y)=z at hC⊢;have HC:=ae hC;clear hC v1 v2 hsm;generalize rs[x]=rx at*;generalize rs[y]=ry at*;have bx:(x:Int)<(n:Int):=by omega
 have by':(y:Int)<(n:Int):=by omega
 have cx:(0:Int)≤(x:Int):=by omega
 have cy:(0:Int)≤(y:Int):=by omega
 have hz:=bm hp;have hg:=bm Ph;simp only at hz hg;go_enter func124,ntmps124
 go_wp2_with fail
 go_region_held3 (fun w'=>w'.cell? ⟨pb,0,none⟩=some (.slice (some ⟨g,o,none⟩) n tc)∧w'.cell? ⟨g,o+x*3,none⟩=some (.bool rx.s)∧w'.cell? ⟨g,o+x*3+1,none⟩=some (.slice rx.a rx.k rx.c)∧w'.cell? ⟨g,o+x*3+2,none⟩=some (.slice rx.b rx.j rx.d)∧w'.cell? ⟨g,o+y*3,none⟩=some (.bool ry.s)∧w'.cell? ⟨g,o+y*3+1,none⟩=some (.slice ry.a ry.k ry.c)∧w'.cell? ⟨g,o+y*3+2,none⟩=some (.slice ry.b ry.j ry.d)) (first|exact ⟨hp,Ph,Qh,Qi,Qj,Qk,Ql⟩|exact ⟨mF hp,mF Ph,mF Qh,mF Qi,mF Qj,mF Qk,mF Ql⟩) (first
  |(go_at_call 107;refine (HC.o _ (by exact (Ext.refl _).drew)).mono ?_;rintro e w1 ⟨rfl,x1⟩;have hp:=aj ((Ext.refl w).drew.trans x1) hp;have Ph:=aj ((Ext.refl w).drew.trans x1) Ph;have Qh:=aj ((Ext.refl w).drew.trans x1) Qh;have Qi:=aj ((Ext.refl w).drew.trans x1) Qi;have Qj:=aj ((Ext.refl w).drew.trans x1) Qj;have Qk:=aj ((Ext.refl w).drew.trans x1) Qk;have Ql:=aj ((Ext.refl w).drew.trans x1) Ql)
  |(go_at_call 116;refine (EM _ _ _).mono ?_;rintro e w2 ⟨rfl,rfl⟩)
  |(go_at_call 115;refine (O9 _ _ _ _ (aJ.alloc w1 3 [.int .i64 z,.int .i64 (jM (x:Int) (y:Int))])).mono ?_;rintro e w3 ⟨rfl,x3⟩;have y3:Ext w1 w3:=((Ext.refl w1).alloc _).trans x3;have hp:=aj y3 hp;have Ph:=aj y3 Ph;have Qh:=aj y3 Qh;have Qi:=aj y3 Qi;have Qj:=aj y3 Qj;have Qk:=aj y3 Qk;have Ql:=aj y3 Ql))
 all_goals go_wp2_with fail
 all_goals go_ret
 all_goals exact ⟨rfl,((Ext.refl _).drew.trans x1).trans y3⟩
theorem L0 (w:World) (pb blk n c:Nat) (fs:List Rat) (h0:0<n) (CE:n<1000000) (Kg: ∀V,nL blk w V→ ∀x y:Nat,x<n→y<n→Calls prog 124 #[.int .i64 (x:Nat),.int .i64 (y:Nat),.pointer (some ⟨pb,0,none⟩)] V fun e w'=>e= .returned (.int .i64 (i7 fs x y))∧Ext V w')
 (hO: ∀j,j<n→w.cell? ⟨blk,j,none⟩=some (.int .i64 (j:Nat))∧w.frozen? ⟨blk,j,none⟩=false):
 Calls prog 113 #[.slice (some ⟨blk,0,none⟩) n c,.func (.func 124) #[] #[.pointer (some ⟨pb,0,none⟩)]] w fun e w'=>e= .returned (.tuple #[])∧DY fs n blk w w'∧ ∀j,j<n→w'.frozen? ⟨blk,j,none⟩=false:=by
 obtain ⟨n',rfl⟩: ∃n',n=n'+1:=⟨n-1,by omega⟩;have eg: ∀args w,(callFunc 124 args).run prog w= .ok (.enter 124 args) w:=enters_of func124 (by kernel_rfl) rfl
 have hsw:SWO (ltOf (fun a b:Fin (n'+1)=>i7 fs a b)):=by
  have e: ∀a b:Fin (n'+1),ltOf (fun a b:Fin (n'+1)=>i7 fs a b) a b=false↔ ¬lG fs a b:=by
   intro a b;unfold ltOf;rw [decide_eq_false_iff_not,qC]
  have e': ∀a b:Fin (n'+1),ltOf (fun a b:Fin (n'+1)=>i7 fs a b) a b=true↔lG fs a b:=by
   intro a b;unfold ltOf;rw [decide_eq_true_iff,qC]
  refine ⟨fun x=>(e x x).2 (sX fs x),fun x y z h1 h2=>(e' x z).2 (pw ((e' x y).1 h1) ((e' y z).1 h2)),fun x y z h1 h2=>(e x z).2 (sY ((e x y).1 h1) ((e y z).1 h2))⟩
 have JP: ∀x y:Fin (n'+1),ltOf (fun a b:Fin (n'+1)=>i7 fs a b) x y=false→ltOf (fun a b:Fin (n'+1)=>i7 fs a b) y x=false→x=y:=by
  intro x y h1 h2;unfold ltOf at h1 h2;rw [decide_eq_false_iff_not,qC]at h1 h2;exact Fin.ext (px fs x y h1 h2)
 have hsz:(Array.ofFn (fun i:Fin (n'+1)=>i)).size=n'+1:=by simp
 have hH:Holds (fun i:Fin (n'+1)=>Value.int .i64 (i.val:Nat)) w blk 0 (Array.ofFn (fun i:Fin (n'+1)=>i)):=by
  intro j hj;rw [hsz]at hj;rw [Nat.zero_add,getElem!_pos _ j (by rw [hsz];exact hj)];simp only [Array.getElem_ofFn];exact hO j hj
 have hblk:blk<w.heap.size:=bm (p:=⟨blk,0,none⟩) (hO 0 (by omega)).1
 have LB:CmpLays1 prog 124 #[.pointer (some ⟨pb,0,none⟩)] (fun i:Fin (n'+1)=>Value.int .i64 (i.val:Nat)) (fun a b:Fin (n'+1)=>i7 fs a b) blk 0 (Array.ofFn (fun i:Fin (n'+1)=>i)).size w:=by
  intro m os dk _ x y;have ag:=mR (fun i:Fin (n'+1)=>Value.int .i64 (i.val:Nat)) w blk 0 m dk os;refine (Kg _ ag x y x.2 y.2).mono ?_;rintro e w' ⟨he,hx⟩;exact ⟨he,hx.grow⟩
 have hS:=Any.slices_SortFunc_total Tryz.sortL (fun i:Fin (n'+1)=>Value.int .i64 (i.val:Nat)) (fun _=>rfl) (fun a b:Fin (n'+1)=>i7 fs a b) hsw 124 #[.pointer (some ⟨pb,0,none⟩)] blk 0 c (Array.ofFn (fun i:Fin (n'+1)=>i)) w eg LB hH hblk (by rw [hsz];omega) JP;rw [hsz]at hS;change Calls prog 113 _ _ _ at hS
 refine hS.mono ?_;rintro e w' ⟨he,m,os,rfl⟩;refine ⟨he,?_⟩;have hl:(Array.ofFn (fun i:Fin (n'+1)=>i)).toList=List.finRange (n'+1):=by simp [List.finRange]
 rw [hl];have hlen:(fX fs (n'+1)).toArray.size=n'+1:=by simp [fX]
 refine ⟨⟨fun j hj=> ?_,mR _ _ _ _ _ _ _,?_,rfl,rfl,rfl,?_⟩,fun j hj=> ?_⟩
 ·have hw:SW (fun i:Fin (n'+1)=>Value.int .i64 (i.val:Nat)) w blk 0 (fX fs (n'+1)).toArray (sortWorld (fun i:Fin (n'+1)=>Value.int .i64 (i.val:Nat)) w blk 0 m (fX fs (n'+1)).toArray os):=⟨m,os,rfl⟩
  have h5:=(hw.holds hblk hH (by rw [hlen,hsz]) j (by rw [hlen];exact hj)).1;rw [Nat.zero_add]at h5;refine h5.trans ?_;rw [getElem!_pos _ j (by rw [hlen];exact hj)];unfold tN;rw [List.getElem?_eq_getElem (by have:=hlen;simp at this;omega)];rfl
 ·show w.heap.size≤(sortWorld _ w blk 0 m _ os).heap.size
  unfold sortWorld;rw [size_grow,size_putRow];exact Nat.le_add_right _ _
 ·show w.drawn≤w.drawn+m
  exact Nat.le_add_right _ _
 ·have hw:SW (fun i:Fin (n'+1)=>Value.int .i64 (i.val:Nat)) w blk 0 (fX fs (n'+1)).toArray (sortWorld (fun i:Fin (n'+1)=>Value.int .i64 (i.val:Nat)) w blk 0 m (fX fs (n'+1)).toArray os):=⟨m,os,rfl⟩
  have h5:=(hw.holds hblk hH (by rw [hlen,hsz]) j (by rw [hlen];exact hj)).2;rw [Nat.zero_add]at h5;exact h5
def dI (ts:List Rat) (n:Nat):List Nat:=(List.range n).map (tN (tO ts) n)
theorem cW (ts:List Rat) (n:Nat):(dI ts n).length=n:=by simp [dI]
theorem kH (ts:List Rat) (n j:Nat) (h:j<n):(dI ts n)[j]'(by rw [cW];exact h)=tN (tO ts) n j:=by simp [dI]
theorem qH (ts:List Rat) (n:Nat):(dI ts n).Perm (List.range n):=by
 have h1:dI ts n=(fX (tO ts) n).map (·.val):=by
  apply List.ext_getElem
  ·rw [cW,List.length_map,iY]
  ·intro j h1 h2
   rw [cW]at h1;rw [kH _ _ _ h1,List.getElem_map,qD _ _ _ (by rw [iY];exact h1)]
 rw [h1];have h2:=(mG (tO ts) n).map (fun i:Fin n=>i.val)
 have h3:(List.finRange n).map (fun i:Fin n=>i.val)=List.range n:=by
  apply List.ext_getElem
  ·simp
  ·intro j h1 h2;simp
 rw [h3]at h2;exact h2
theorem kI (ts:List Rat) (n i:Nat):i∈dI ts n↔i<n:=by rw [(qH ts n).mem_iff,List.mem_range]
theorem vM (ts:List Rat) (n:Nat):(dI ts n).Pairwise (fun i j=>qG ts i≤qG ts j):=by
 rw [List.pairwise_iff_getElem];intro i j hi hj Qp;rw [cW]at hi hj;rw [kH _ _ _ hi,kH _ _ _ hj];rcases Gr (tO ts) n i j Qp hj with h|⟨h,_⟩
 ·rw [lI,lI]at h;grind
 ·rw [lI,lI]at h;grind
end Go.Proofs.YtkpngkdgphojlaaGreat
namespace Go.Proofs
open Go.Shelf
def Tryz.cloneL_ren:Go.Shelf.Ren:=⟨fun|5=>126|7=>178|n=>n,fun|23=>181|25=>3|3=>3|4=>4|20=>20|n=>n,fun|n=>n⟩
theorem Tryz.cloneL:Go.Proofs.SlLaysW.n5 Tryz.prog Tryz.cloneL_ren:={
 mixed:=by kernel_rfl,
 f5:=⟨Tryz.f126.name,by decide,Tryz.func126.trans (congrArg some (by kernel_rfl))⟩,
 f7:=Tryz.func178.trans (congrArg some (by kernel_rfl)),
 t4:=Tryz.underlying4,
 a4:=Tryz.isAgg4,
 z4:=Tryz.sizeOf4,
 v4:=Tryz.zeroValue4,
 t20:=Tryz.underlying20,
 a20:=Tryz.isAgg20,
 z20:=Tryz.sizeOf20,
 v20:=Tryz.zeroValue20,
 t23:=Tryz.underlying181,
 a23:=Tryz.isAgg181,
 z23:=Tryz.sizeOf181,
 v23:=Tryz.zeroValue181}
end Go.Proofs
namespace Go.Proofs
open Go.Shelf
def Tryz.revL_ren:Go.Shelf.Ren:=⟨fun|35=>127|n=>n,fun|22=>22|23=>3|3=>3|4=>4|0=>0|n=>n,fun|n=>n⟩
theorem Tryz.revL:Go.Proofs.SlLaysE.n35 Tryz.prog Tryz.revL_ren:={
 mixed:=by kernel_rfl,
 f35:=⟨Tryz.f127.name,by decide,Tryz.func127.trans (congrArg some (by kernel_rfl))⟩,
 t0:=Tryz.underlying0,
 a0:=Tryz.isAgg0,
 z0:=Tryz.sizeOf0,
 v0:=Tryz.zeroValue0,
 t3:=Tryz.underlying3,
 a3:=Tryz.isAgg3,
 z3:=Tryz.sizeOf3,
 v3:=Tryz.zeroValue3,
 t4:=Tryz.underlying4,
 a4:=Tryz.isAgg4,
 z4:=Tryz.sizeOf4,
 v4:=Tryz.zeroValue4,
 t22:=Tryz.underlying22,
 a22:=Tryz.isAgg22,
 z22:=Tryz.sizeOf22,
 v22:=Tryz.zeroValue22,
 a23:=Tryz.isAgg3,
 z23:=Tryz.sizeOf3}
end Go.Proofs
namespace Go.Proofs.YtkpngkdgphojlaaGreat
open Go.Proofs.Tryz
open Go.RowKit
theorem Ci (bK f:Nat→Int) (k:Int) (l l':List Nat):kq bK f k (l++l')=kq bK f k l+kq bK f k l':=by
 induction l with
 |nil=>simp [kq]
 |cons i l ih=>simp only [List.cons_append,kq];rw [ih];omega
theorem jO (bK f:Nat→Int) (k:Int) (i:Nat):kq bK f k (List.range (i+1))=kq bK f k (List.range i)+(if bK i=k then f i else 0):=by
 rw [List.range_succ,Ci];simp [kq]
theorem vN (bK f:Nat→Int) (k M:Int) (n:Nat) (hM:0≤M) (h: ∀i,i<n→ -M≤f i∧f i≤M): -(n*M)≤kq bK f k (List.range n)∧kq bK f k (List.range n)≤n*M:=by
 induction n with
 |zero=>simp [kq]
 |succ n ih=>
  have h1:=ih (fun i hi=>h i (by omega));have h2:=h n (by omega);rw [jO];have e:((n+1:Nat):Int)*M=(n:Int)*M+M:=by rw [Int.natCast_add,Int.add_mul];simp
  rw [e];split<;>omega
def dG (lo bK:Nat→Int) (n:Nat) (k:Int):Int:= -(kq bK lo k (List.range n))
def fZ (lo hi bK:Nat→Int) (n:Nat) (k:Int):Int:=kq bK (fun i=>hi i-lo i) k (List.range n)
def iZ (bK:Nat→Int) (n:Nat) (k:Int):Prop:= ∃j,j<n∧bK j=k
theorem vO (lo bK:Nat→Int) (k:Int):dG lo bK 0 k=0:=by simp [dG,kq]
theorem vP (lo hi bK:Nat→Int) (k:Int):fZ lo hi bK 0 k=0:=by simp [fZ,kq]
theorem vQ (lo bK:Nat→Int) (i:Nat) (x:Int):upd (dG lo bK i) (bK i) (dG lo bK i (bK i)-lo i) x=dG lo bK (i+1) x:=by
 unfold upd dG;rw [jO];by_cases h:x=bK i
 ·subst h;simp;omega
 ·rw [if_neg h,if_neg (fun e=>h e.symm)];omega
theorem vR (lo hi bK:Nat→Int) (i:Nat) (x:Int):upd (fZ lo hi bK i) (bK i) (fZ lo hi bK i (bK i)+(hi i-lo i)) x=fZ lo hi bK (i+1) x:=by
 unfold upd fZ;rw [jO];by_cases h:x=bK i
 ·subst h;simp
 ·rw [if_neg h,if_neg (fun e=>h e.symm)];omega
theorem ym (bK:Nat→Int) (i:Nat) (x:Int):(x=bK i∨iZ bK i x)↔iZ bK (i+1) x:=by
 constructor
 ·rintro (h|⟨j,h1,h2⟩)
  ·exact ⟨i,by omega,h.symm⟩
  ·exact ⟨j,by omega,h2⟩
 ·rintro ⟨j,h1,h2⟩
  by_cases hj:j=i
  ·subst hj;exact Or.inl h2.symm
  ·exact Or.inr ⟨j,by omega,h2⟩
theorem od (bK:Nat→Int) (x:Int):False↔iZ bK 0 x:=⟨fun h=>h.elim,fun⟨_,h,_⟩=>absurd h (Nat.not_lt_zero _)⟩
def yo (lo hi:Nat→Int) (n:Nat):Prop:= ∀i,i<n→ -1073741824≤lo i∧lo i≤hi i∧hi i≤1073741824
theorem yo.qI {lo hi:Nat→Int} {n:Nat} (h:yo lo hi n) (bK:Nat→Int) (k:Int) (i:Nat) (hi':i≤n) (hn:i≤40): -42949672960≤dG lo bK i k∧dG lo bK i k≤42949672960:=by
 have h1:=vN bK lo k 1073741824 i (by decide) (fun j hj=>by have:=h j (by omega);omega);unfold dG;omega
theorem yo.room {lo hi:Nat→Int} {n:Nat} (h:yo lo hi n) (bK:Nat→Int) (k:Int) (i:Nat) (hi':i≤n) (hn:i≤40): -85899345920≤fZ lo hi bK i k∧fZ lo hi bK i k≤85899345920:=by
 have h1:=vN bK (fun i=>hi i-lo i) k 2147483648 i (by decide) (fun j hj=>by have:=h j (by omega);omega);unfold fZ;omega
structure D8 (w W:World) (n:Nat) (lo hi bK:Nat→Int) (ta:Option Addr) (tc i:Nat) (wr:World):Prop where
 ext:Ext w wr
 box:aJ wr w.heap.size 122 [.slice ta n tc]
 r1:aJ wr (w.heap.size+1) 119 kF
 r2:aJ wr (w.heap.size+2) 119 kF
 qI:cZ wr W.heap.size i (iZ bK i) (dG lo bK i)
 room:cZ wr (W.heap.size+1) i (iZ bK i) (fZ lo hi bK i)
theorem D8.drew {w W:World} {n:Nat} {lo hi bK:Nat→Int} {ta:Option Addr} {tc i:Nat} {wr:World} (h:D8 w W n lo hi bK ta tc i wr):D8 w W n lo hi bK ta tc i wr.drew:=
 ⟨h.ext.drew,h.box,h.r1,h.r2,h.qI.same rfl,h.room.same rfl⟩
def M4 (w:World) (p q:Rat) (e:Ending) (w':World):Prop:=
 ∃r1 r2:ct,e= .returned (.tuple #[.agg #[.bool r1.s,.slice r1.a r1.k r1.c,.slice r1.b r1.j r1.d],.agg #[.bool r2.s,.slice r2.a r2.k r2.c,.slice r2.b r2.j r2.d],.bool true])∧cT w' r1 p w.heap.size∧cT w' r2 q w.heap.size∧Ext w w'
open Go.Sort Go.Shelf
theorem Pj (w:World) (b n:Nat) (K:Int→Prop) (f:Int→Int) (h:cZ w b n K f):
 Calls prog 126 #[.map (some b)] w fun e w'=> ∃b',e= .returned (.map (some b'))∧w.heap.size≤b'∧b'<w'.heap.size∧cZ w' b' n K f∧Ext w w':=by
 obtain ⟨D,⟨es,clock,hb,F,hs,hD⟩,h2⟩:=h;have hc:=AnyW.maps_Clone Tryz.cloneL b es clock w hb;change Calls prog 126 _ _ _ at hc
 refine hc.mono ?_;rintro e w' ⟨he,rfl⟩;exact ⟨w.heap.size,he,Nat.le_refl _,by simp,⟨D,⟨es,clock,(MapKept.heap_alloc w _).1,F,hs,hD⟩,h2⟩,(Ext.refl _).alloc _⟩
theorem Cj {α:Type} [Inhabited α] (enc:α→Value) (w:World) (blk off m:Nat) (d:Array α):om blk w (putRow enc (Sort.ahead w m) blk off d):=by
 refine ⟨rfl,rfl,rfl,Nat.le_add_right _ _,?_,fun k hk=> ?_⟩
 ·rw [size_putRow];rfl
 ·unfold putRow mapBlock
  simp [Array.getElem?_modify,Ne.symm hk,Sort.ahead]
def rZ (w:World) (blk:Nat) (os:List Nat):Prop:= ∀j (hj:j<os.length),w.cell? ⟨blk,j,none⟩=some (.int .i64 (os[j]:Nat))∧w.frozen? ⟨blk,j,none⟩=false
theorem rZ.same {w w':World} {blk:Nat} {os:List Nat} (h:rZ w blk os) (e:w'.heap[blk]?=w.heap[blk]?):rZ w' blk os:=by
 intro j hj;have:=h j hj;unfold World.cell? World.frozen? at*;rw [e];exact this
theorem YM (w:World) (blk n c:Nat) (os:List Nat) (hn:os.length=n) (hl:n≤1000000) (hc:rZ w blk os):
 Calls prog 127 #[.slice (some ⟨blk,0,none⟩) n c] w fun e w'=>e= .returned (.tuple #[])∧(∀j (hj:j<os.reverse.length),w'.cell? ⟨blk,j,none⟩=some (.int .i64 (os.reverse[j]:Nat)))∧om blk w w':=by
 have hH:Holds (fun i:Nat=>Value.int .i64 (i:Int)) w blk 0 os.toArray:=by
  intro j hj;have hj':j<os.length:=by simpa using hj
  rw [Nat.zero_add,getElem!_pos _ j hj];simpa using hc j hj'
 have hS:=AnyE.slices_Reverse Tryz.revL (fun i:Nat=>Value.int .i64 (i:Int)) (fun _=>rfl) blk 0 c os w hH (by omega);change Calls prog 127 _ _ _ at hS
 rw [hn]at hS;refine hS.mono ?_;rintro e w' ⟨he,m,rfl⟩;refine ⟨he,fun j hj=> ?_,Cj _ _ _ _ _ _⟩;have h5:=(holds_putRow (fun i:Nat=>Value.int .i64 (i:Int)) (Sort.ahead w m) blk 0 os.toArray os.reverse.toArray (holds_ahead _ w m blk 0 os.toArray hH) (by simp)) j (by simpa using hj);have h6:=h5.1;rw [Nat.zero_add,getElem!_pos _ j (by simpa using hj)]at h6;simpa using h6
structure Pm (w:World) (blk:Nat) (qs:List Rat) (n:Nat) (w':World):Prop where
 holds:rZ w' blk (dI qs n)
 but:ar blk w w'
theorem DY.but {fs:List Rat} {n blk:Nat} {w w':World} (h:DY fs n blk w w'):ar blk w w':=⟨h.os,h.tape,h.output,h.drawn,h.size,h.agree⟩
theorem Ck (w:World) (pb blk n c:Nat) (qs:List Rat) (CE:n<1000000) (Kg: ∀V,nL blk w V→ ∀x y:Nat,x<n→y<n→Calls prog 124 #[.int .i64 (x:Nat),.int .i64 (y:Nat),.pointer (some ⟨pb,0,none⟩)] V fun e w'=>e= .returned (.int .i64 (i7 (tO qs) x y))∧Ext V w')
 (hO: ∀j,j<n→w.cell? ⟨blk,j,none⟩=some (.int .i64 (j:Nat))∧w.frozen? ⟨blk,j,none⟩=false):
 Calls prog 113 #[.slice (some ⟨blk,0,none⟩) n c,.func (.func 124) #[] #[.pointer (some ⟨pb,0,none⟩)]] w fun e w'=>e= .returned (.tuple #[])∧Pm w blk qs n w':=by
 by_cases h0:0<n
 ·refine (L0 w pb blk n c (tO qs) h0 CE Kg hO).mono ?_
  rintro e w' ⟨he,hs,hf⟩;refine ⟨he,fun j hj=> ?_,hs.but⟩;rw [cW]at hj;rw [kH _ _ _ hj];exact ⟨hs.cell j hj,hf j hj⟩
 ·obtain rfl:n=0:=by omega
  have hS:=AnyF.slices_SortFunc_none Tryz.sortL0 (some ⟨blk,0,none⟩) c (.func (.func 124) #[] #[.pointer (some ⟨pb,0,none⟩)]) w;change Calls prog 113 _ _ _ at hS
  refine hS.mono ?_;rintro e w' ⟨he,rfl⟩;exact ⟨he,fun j hj=>absurd hj (by rw [cW];omega),ar.refl _ _⟩
theorem ar.arr {b g:Nat} {w w':World} (h:ar b w w') {T:TypeId} {vs:List Value} (hg:g≠b) (hA:aJ w g T vs):aJ w' g T vs:=by
 unfold aJ;rw [h.block g hA.lt hg];exact hA
theorem cZ.but {w w':World} {b g n:Nat} {K:Int→Prop} {f:Int→Int} (h:cZ w b n K f) (t:ar g w w') (hg:b≠g):cZ w' b n K f:=h.same (t.block b h.lt hg)
theorem ar.cell {b:Nat} {w w':World} (t:ar b w w') {p:Addr} {v:Value} (hp:p.block≠b) (h:w.cell? p=some v):w'.cell? p=some v:=by
 have:=bm h;unfold World.cell? at*;rw [t.block _ this hp];exact h
theorem ar.raw {b:Nat} {w w':World} (t:ar b w w') {a:Option Addr} {k c n:Nat} (h:Raw w a k c n) (ha: ∀x,a=some x→x.block≠b):Raw w' a k c n:=by
 obtain ⟨l,h1,h2,h3⟩:=h
 exact ⟨l,h1,h2,h3.le,h3.cap,h3.short,h3.GJ,h3.small,fun i hi=>by
  obtain ⟨b',o,e,hc⟩:=h3.cell i hi;exact ⟨b',o,e,t.cell (p:=⟨b',o+i,none⟩) (show b'≠b from ha ⟨b',o,none⟩ e) hc⟩⟩
theorem cT.but {b:Nat} {w w':World} {r:ct} {q:Rat} {B:Nat} (h:cT w r q B) (t:ar b w w') (hb:b<B):cT w' r q B:=
 ⟨h.s,h.k,h.j,t.raw h.num (h.fa.ne hb),t.raw h.den (h.fb.ne hb),h.fa,h.fb⟩
theorem ar.old {b:Nat} {w0 w w':World} (t:ar b w w') (h:gi w0 w) (hb:w0.heap.size≤b):gi w0 w':=fun p v e=>t.cell (by have:=bm e;omega) (h p v e)
theorem nL.old {b:Nat} {w0 w w':World} (t:nL b w w') (h:gi w0 w) (hb:w0.heap.size≤b):gi w0 w':=fun p v e=>t.cell (by have:=bm e;omega) (h p v e)
theorem yq (w:World) (blk n:Nat) (os:List Nat) (hn:os.length=n) (hs:n≤1000000) (ho: ∀i∈os,i<n) (hc: ∀j (hj:j<os.length),w.cell? ⟨blk,j,none⟩=some (.int .i64 (os[j]:Nat))):aD w (some ⟨blk,0,none⟩) n (os.map fun(i:Nat)=>(i:Int)):=by
 refine ⟨by rw [List.length_map];omega,by omega,fun i hi=>⟨blk,0,rfl,?_⟩,fun i hi=> ?_⟩
 ·rw [List.length_map]at hi
  rw [Nat.zero_add,List.getElem_map];exact hc i hi
 ·rw [List.length_map]at hi
  rw [List.getElem_map];have:=ho os[i] (List.getElem_mem hi);omega
theorem aJ.Fb {w:World} {b:Nat} {T:TypeId} {vs:List Value} (h:aJ w b T vs):aJ w.drew b T vs:=h
theorem cT.Fc {w:World} {r:ct} {q:Rat} {B:Nat} (h:cT w r q B) (b:Nat) (hb:b<B) {x y z:Value}:cT (((w.setCell ⟨b,0,none⟩ x).setCell ⟨b,1,none⟩ y).setCell ⟨b,2,none⟩ z) r q B:=
 ((h.setCell ⟨b,0,none⟩ _ hb).setCell ⟨b,1,none⟩ _ hb).setCell ⟨b,2,none⟩ _ hb
theorem Ext.yr {w0 w:World} (h:Ext w0 w) {b:Nat} (hb:w0.heap.size≤b) {x y z:Value}:Ext w0 (((w.setCell ⟨b,0,none⟩ x).setCell ⟨b,1,none⟩ y).setCell ⟨b,2,none⟩ z):=
 ((h.setCell (p:=⟨b,0,none⟩) hb _).setCell (p:=⟨b,1,none⟩) hb _).setCell (p:=⟨b,2,none⟩) hb _
structure Pn (w W:World) (n:Nat) (ta:Option Addr) (tc:Nat) (K:Int→Prop) (fm:Int→Int) (bo:Nat) (l:List Int) (wr:World):Prop where
 ext:Ext w wr
 box:aJ wr w.heap.size 122 [.slice ta n tc]
 r1:aJ wr (w.heap.size+1) 119 kF
 r2:aJ wr (w.heap.size+2) 119 kF
 qI:cZ wr W.heap.size n K fm
 ord:aJ wr bo 3 (lQ l)
structure Gu (w W:World) (r n:Nat) (ta:Option Addr) (tc:Nat) (K:Int→Prop) (fm fr:Int→Int) (left:Int→Prop) (cnt:Nat) (wr:World):Prop where
 ext:Ext w wr
 box:aJ wr w.heap.size 122 [.slice ta n tc]
 r1:aJ wr (w.heap.size+1) 119 kF
 r2:aJ wr (w.heap.size+2) 119 kF
 rg:kL wr W.heap.size r n K fm left cnt
 sub: ∀k,left k→K k
 room:cZ wr (W.heap.size+1) n K fr
theorem xh (w:World) (ta la ha ia:Option Addr) (tc lc hc ic L n:Nat) (rs:List ct) (qs:List Rat) (lo hi bK:List Int)
 (hR:og w ta tc rs qs L) (qN:aD w la lc lo) (Fa:aD w ha hc hi) (iG:aD w ia ic bK)
 (n1:rs.length=n) (n2:lo.length=n) (n3:hi.length=n) (n4:bK.length=n) (hn:n≤32) (hsm: ∀i (h:i<rs.length),D6 w rs[i] (qG qs i)) (TL: ∀i,Qt (qG qs i) 4) (hbs: ∀i,i<n→ -100≤aR lo i∧aR lo i≤aR hi i∧aR hi i≤100) (JU:yo (aR lo) (aR hi) n)
 (hg: ∀k,iZ (aR bK) n k→0≤dG (aR lo) (aR bK) n k∧dG (aR lo) (aR bK) n k≤fZ (aR lo) (aR hi) (aR bK) n k):
 Calls prog 72 #[.slice ta n tc,.slice la n lc,.slice ha n hc,.slice ia n ic] w fun e w'=>M4 w (fY (qG qs) (aR lo) (aR hi) (aR bK) (dI qs n) (dG (aR lo) (aR bK) n)) (fY (qG qs) (aR lo) (aR hi) (aR bK) (dI qs n).reverse (dG (aR lo) (aR bK) n)) e w':=by
 obtain ⟨P,hP⟩: ∃P,P=fY (qG qs) (aR lo) (aR hi) (aR bK) (dI qs n) (dG (aR lo) (aR bK) n):=⟨_,rfl⟩;obtain ⟨Q,hQ⟩: ∃Q,Q=fY (qG qs) (aR lo) (aR hi) (aR bK) (dI qs n).reverse (dG (aR lo) (aR bK) n):=⟨_,rfl⟩;rw [←hP,←hQ];have HP:=ae hP;have HQ:=ae hQ
 clear hP hQ;have TM:=hR.le;have M0:=hR.cap;have Kf:=qN.le;have hl2:=qN.cap;have Xo:=Fa.le;have Ik:=Fa.cap;have hi1:=iG.le;have Le:=iG.cap
 have HR:=ae hR;have wb:=ae hsm;have YE:=ae TL;have HBS:=ae hbs;have Ky:=ae qN;have Kz:=ae Fa;have wA:=ae iG;have xi:=ae JU;have HG:=ae hg
 clear hR qN Fa iG JU hg hsm TL hbs;have Ef:= @run_makeMap prog;have u1:decide ((32:Int)<(n:Int))=false:=by simp;omega
 have u2:((n:Int) !=(n:Int))=false:=by simp
 go_enter func72,ntmps72
 go_upto_region 1 with fail
 obtain ⟨W,hW,x0,Z0,A0,A1,A2⟩:=eT w 122 [.slice ta n tc] 119 kF 119 kF;rw [show(World.alloc (World.alloc (World.alloc w (Obj.cells #[Value.slice ta n tc] 122)) (Obj.cells #[Value.bool false,Value.slice none 0 0,Value.slice none 0 0] 119)) (Obj.cells #[Value.bool false,Value.slice none 0 0,Value.slice none 0 0] 119))=W from hW.symm];clear hW;have kb:=A0.cell 0;simp at kb;go_upto_region 5 with fail
 have TS:cZ (W.alloc (.map #[] 0)) W.heap.size 0 (fun _=>False) (fun _=>0):=cZ.made W;have y1:Ext W (W.alloc (.map #[] 0)):=(Ext.refl _).alloc _
 have MJ:cZ ((W.alloc (.map #[] 0)).alloc (.map #[] 0)) (W.heap.size+1) 0 (fun _=>False) (fun _=>0):=by
  have:=cZ.made (W.alloc (.map #[] 0));rwa [show(W.alloc (.map #[] 0)).heap.size=W.heap.size+1 from by simp]at this
 have y2:Ext (W.alloc (.map #[] 0)) ((W.alloc (.map #[] 0)).alloc (.map #[] 0)):=(Ext.refl _).alloc _
 have SI:Hid (D8 w W n (aR lo) (aR hi) (aR bK) ta tc 0 ((W.alloc (.map #[] 0)).alloc (.map #[] 0))):=
  ⟨x0.trans (y1.trans y2),A0.ext (y1.trans y2),A1.ext (y1.trans y2),A2.ext (y1.trans y2),(TS.ext y2).keys (od _) (fun k=>(vO _ _ k).symm),MJ.keys (od _) (fun k=>(vP _ _ _ k).symm)⟩
 generalize (W.alloc (.map #[] 0)).alloc (.map #[] 0)=W2 at*;clear TS y1 MJ y2 A0 A1 A2 kb Ef;have hz:w.heap.size+2<W.heap.size:=by have:=Z0.o;omega
 go_wp2_with fail
 go_loopw [46] (fun ii wr=> ∃i:Nat,i≤n∧D8 w W n (aR lo) (aR hi) (aR bK) ta tc i wr∧ii= .int .i64 i) (fun ii _=>n-(intOf ii).toNat)
 case atStart=>exact ⟨0,Nat.zero_le _,SI.o,rfl⟩
 case round=>
  obtain ⟨i,YN,xj,rfl⟩:=hrel;clear SI;by_cases hlt:i<n
  ·have hE:=xj.ext
   obtain ⟨bl,ol,rfl,cL⟩:=(Ky.o.ext hE).cell i (by omega);obtain ⟨bh,oh,rfl,cH⟩:=(Kz.o.ext hE).cell i (by omega);obtain ⟨bi,oi,rfl,cI⟩:=(wA.o.ext hE).cell i (by omega);have Pf:=wA.o.Nf i (by omega);have zl:bl<w.heap.size:=by obtain ⟨b',o',e',c'⟩:=Ky.o.cell i (by omega);cases e';exact bm c'
   have zh:bh<w.heap.size:=by obtain ⟨b',o',e',c'⟩:=Kz.o.cell i (by omega);cases e';exact bm c'
   have zi:bi<w.heap.size:=by obtain ⟨b',o',e',c'⟩:=wA.o.cell i (by omega);cases e';exact bm c'
   obtain ⟨YF,YG,YH⟩:=xi.o i hlt;have Cz:=xi.o.qI (aR bK) (aR bK i) i (by omega) (by omega);have qM:=xi.o.room (aR bK) (aR bK i) i (by omega) (by omega);have eA:aR lo i=lo[i]:=df (by omega);have eB:aR hi i=hi[i]:=df (by omega);have eC:aR bK i=bK[i]:=df (by omega);have Dk: ∀x,upd (dG (aR lo) (aR bK) i) (aR bK i) (dG (aR lo) (aR bK) i (aR bK i)-aR lo i) x=dG (aR lo) (aR bK) (i+1) x:=vQ _ _ i;have Po: ∀x,upd (fZ (aR lo) (aR hi) (aR bK) i) (aR bK i) (fZ (aR lo) (aR hi) (aR bK) i (aR bK i)+(aR hi i-aR lo i)) x=fZ (aR lo) (aR hi) (aR bK) (i+1) x:=vR _ _ _ i;have TT: ∀x,(x=aR bK i∨iZ (aR bK) i x)↔iZ (aR bK) (i+1) x:=ym _ i;have Gv:=xj.qI;have TU:=xj.room;rw [←eA]at cL;rw [←eB]at cH;rw [←eC]at cI Pf
   have sO:=ae xj;clear xj hE eA eB eC;generalize dG (aR lo) (aR bK) i=fm at*;generalize fZ (aR lo) (aR hi) (aR bK) i=fr at*;generalize aR lo i=l at*;generalize aR hi i=h at*;generalize aR bK i=k at*;have rY:bp k:=Pf;have t1:decide (l<(-1073741824:Int))=false:=by simp;omega
   have t2:decide ((1073741824:Int)<l)=false:=by simp;omega
   have t3:decide (h<(-1073741824:Int))=false:=by simp;omega
   have t4:decide ((1073741824:Int)<h)=false:=by simp;omega
   have t5:decide (h<l)=false:=by simp;omega
   have fK:IntKind.i64.wrap (fm k-l)=fm k-l:=by rw [IntKind.wrap_i64];omega
   have hw2:IntKind.i64.wrap (h-l)=h-l:=by rw [IntKind.wrap_i64];omega
   have hw3:IntKind.i64.wrap (fr k+(h-l))=fr k+(h-l):=by rw [IntKind.wrap_i64];omega
   have PD:=ae Dk;have YO:=ae Po;have Mk:=ae TT;have Gt:=ae Gv;have GV:=ae TU
   have f_:(0:Int)≤(i:Int):=by omega
   have fU:(i:Int)<(n:Int):=by omega
   clear Dk Po TT Gv TU;go_wp2_with fail
   refine dW (S:=fun w'=>w'.cell? ⟨bl,ol+i,none⟩=some (.int .i64 l)∧w'.cell? ⟨bh,oh+i,none⟩=some (.int .i64 h)) (fun i=>false) (by kernel_rfl) (⟨cL,cH⟩) (fun aq=> ?_);refine bT 0 aq ?_;refine bT 1 aq ?_ (v:= .int .i64 (i:Int));refine bT 2 aq ?_;refine bT 3 aq ?_ (v:= .int .i64 l);refine bT 4 aq ?_;refine bT 5 aq ?_;refine bT 6 aq ?_;refine bT 7 aq ?_ (v:= .int .i64 (i:Int));refine bT 8 aq ?_;refine bT 9 aq ?_ (v:= .int .i64 l);refine bT 10 aq ?_;refine bT 11 aq ?_;refine bT 12 aq ?_;refine bT 13 aq ?_;refine bT 14 aq ?_ (v:= .int .i64 (i:Int));refine bT 15 aq ?_;refine bT 16 aq ?_ (v:= .int .i64 h);refine bT 17 aq ?_;refine bT 18 aq ?_;refine bT 19 aq ?_;refine bT 20 aq ?_;refine bT 21 aq ?_ (v:= .int .i64 (i:Int));refine bT 22 aq ?_;refine bT 23 aq ?_ (v:= .int .i64 h);refine bT 24 aq ?_;refine bT 25 aq ?_;refine bT 26 aq ?_;refine bT 27 aq ?_;refine bT 28 aq ?_ (v:= .int .i64 (i:Int));refine bT 29 aq ?_;refine bT 30 aq ?_ (v:= .int .i64 l);refine bT 31 aq ?_;refine bT 32 aq ?_ (v:= .int .i64 (i:Int));refine bT 33 aq ?_;refine bT 34 aq ?_ (v:= .int .i64 h);refine bT 35 aq ?_;refine bT 36 aq ?_;refine dV (by kernel_rfl) ?_ _;clear aq;go_wp2_with fail
   refine dW (S:=fun w'=>w'.cell? ⟨bl,ol+i,none⟩=some (.int .i64 l)∧w'.cell? ⟨bi,oi+i,none⟩=some (.int .i64 k)∧cZ w' W.heap.size i (iZ (aR bK) i) fm) (fun i=>i==11) (by kernel_rfl) (⟨cL,cI,Gt.o.same rfl⟩) (fun aq=> ?_);refine bT 0 aq ?_ (v:= .map (some W.heap.size));refine bT 1 aq ?_;refine bT 2 aq ?_ (v:= .int .i64 (i:Int));refine bT 3 aq ?_;refine bT 4 aq ?_ (v:= .int .i64 k);refine bT 6 aq ?_;refine bT 7 aq ?_ (v:= .int .i64 (i:Int));refine bT 8 aq ?_;refine bT 9 aq ?_ (v:= .int .i64 l);refine bT 5 aq ?_ (v:= .int .i64 (fm k)) (hy:=by intro w hSw;obtain ⟨e0,e1,e2⟩:=hSw;have hl:=e2.look rY;go_simp);refine bT 10 aq ?_ (v:= .int .i64 (fm k-l));refine bZ (rs:= [11]) (by kernel_rfl) (by simp) ?_;refine aU.last rfl rfl (fun Kc hK=> ?_) aU.nil;rw [if_pos (by rfl)];refine iu _ _ _ _ rfl W.heap.size i (iZ (aR bK) i) fm k (fm k-l) rfl rfl rfl (Gt.o.same rfl) (by omega) rY (by unfold bp;omega) ?_;intro w4 YP Cm;refine hK.o _ _ ?_;clear hK Kc;try simp only [sS]
   refine dV (by kernel_rfl) ?_ _;clear aq;go_wp2_with fail
   have YQ:=Cm.cell (p:=⟨bl,ol+i,none⟩) (by simp only;omega) (show wr.drew.drew.cell? _=_ from cL);have YR:=Cm.cell (p:=⟨bh,oh+i,none⟩) (by simp only;omega) (show wr.drew.drew.cell? _=_ from cH);have YS:=Cm.cell (p:=⟨bi,oi+i,none⟩) (by simp only;omega) (show wr.drew.drew.cell? _=_ from cI);have JV:cZ w4 (W.heap.size+1) i (iZ (aR bK) i) fr:=(GV.o.same rfl:cZ wr.drew.drew _ _ _ _).turn Cm (by omega);have JW:=ae JV;clear JV;refine dW (S:=fun w'=>w'.cell? ⟨bl,ol+i,none⟩=some (.int .i64 l)∧w'.cell? ⟨bh,oh+i,none⟩=some (.int .i64 h)∧w'.cell? ⟨bi,oi+i,none⟩=some (.int .i64 k)∧cZ w' (W.heap.size+1) i (iZ (aR bK) i) fr) (fun i=>i==16) (by kernel_rfl) (⟨YQ,YR,YS,JW.o.same rfl⟩) (fun aq=> ?_);refine bT 0 aq ?_ (v:= .map (some (W.heap.size+1)));refine bT 1 aq ?_;refine bT 2 aq ?_ (v:= .int .i64 (i:Int));refine bT 3 aq ?_;refine bT 4 aq ?_ (v:= .int .i64 k);refine bT 6 aq ?_;refine bT 7 aq ?_ (v:= .int .i64 (i:Int));refine bT 8 aq ?_;refine bT 9 aq ?_ (v:= .int .i64 h);refine bT 10 aq ?_;refine bT 11 aq ?_ (v:= .int .i64 (i:Int));refine bT 12 aq ?_;refine bT 13 aq ?_ (v:= .int .i64 l);refine bT 5 aq ?_ (v:= .int .i64 (fr k)) (hy:=by intro w hSw;obtain ⟨e0,e1,e2,e3⟩:=hSw;have hl:=e3.look rY;go_simp);refine bT 14 aq ?_ (v:= .int .i64 (h-l));refine bT 15 aq ?_ (v:= .int .i64 (fr k+(h-l)));refine bZ (rs:= [16]) (by kernel_rfl) (by simp) ?_;refine aU.last rfl rfl (fun Kc hK=> ?_) aU.nil;rw [if_pos (by rfl)];refine iu _ _ _ _ rfl (W.heap.size+1) i (iZ (aR bK) i) fr k (fr k+(h-l)) rfl rfl rfl (JW.o.same rfl) (by omega) rY (by unfold bp;omega) ?_;intro w5 YT A_;refine hK.o _ _ ?_;clear hK Kc;try simp only [sS]
   refine dV (by kernel_rfl) ?_ _;clear aq;go_wp2_with fail
   have YU:cZ w5 W.heap.size (i+1) (iZ (aR bK) (i+1)) (dG (aR lo) (aR bK) (i+1)):=((show cZ w4.drew W.heap.size (i+1) _ _ from YP.same rfl).turn A_ (show W.heap.size≠W.heap.size+1 by omega)).keys Mk.o PD.o;have LD:cZ w5 (W.heap.size+1) (i+1) (iZ (aR bK) (i+1)) (fZ (aR lo) (aR hi) (aR bK) (i+1)):=YT.keys Mk.o YO.o;exact ⟨⟨i+1,by omega,⟨A_.ext (Cm.ext (sO.o.ext.drew.drew) (by omega)).drew (by omega),A_.arr (by omega) (Cm.arr (by omega) sO.o.box),A_.arr (by omega) (Cm.arr (by omega) sO.o.r1),A_.arr (by omega) (Cm.arr (by omega) sO.o.r2),YU,LD⟩,by go_num⟩,by simp only [intOf];omega⟩
  ·obtain rfl:i=n:=by omega
   clear YN hlt;have Gv:=xj.qI;have Po:=xj.room.lt;have GY:=xi.o.qI (aR bK);have Vl: ∀k,dG (aR lo) (aR bK) i k≤1099511627776:=fun k=>by have:=GY k i (Nat.le_refl _) (by omega);omega
   have BH: ∀k,¬iZ (aR bK) i k→dG (aR lo) (aR bK) i k=0:=by
    intro k hk;obtain ⟨D,⟨es,clock,hb,F,hs,hD⟩,h2,h3⟩:=Gv
    have hh:Maps.has D (.int .i64 k)=false:=by
     cases hq:Maps.has D (.int .i64 k)with
     |false=>rfl
     |true=>exact absurd ((h2 k).1 hq) hk
    have:=h3 k;rw [Maps.atKey_of_not_has hh]at this;simp only [DataW.lit.injEq,Lit.int.injEq,true_and]at this;exact this.symm
   have sO:=ae xj;have Gt:=ae Gv;have JX:=xj.room;have Pp:=ae JX;clear xj Gv GY JX;generalize iZ (aR bK) i=K at*;generalize dG (aR lo) (aR bK) i=fm at*;generalize fZ (aR lo) (aR hi) (aR bK) i=fr at*;have HFM:=ae Vl;have HFZ:=ae BH
   clear Vl BH;obtain ⟨rr,Ge⟩: ∃rr,rr=wr.heap.size:=⟨_,rfl⟩;have YV:W.heap.size+1<rr:=by omega
   have HRR:=ae Ge;go_wp2_with (at_range;refine kG _ rfl _ rfl W.heap.size i K fm rfl Gt.o ?_;intro w6 JY LG x6 z6)
   rw [←Ge]at LG⊢;have S6:Hid (Gu w W rr i ta tc K fm fr K JY w6):=⟨sO.o.ext.trans x6,sO.o.box.ext x6,sO.o.r1.ext x6,sO.o.r2.ext x6,LG,fun k hk=>hk,Pp.o.ext x6⟩;clear Ge LG x6 z6
   go_frame
   go_loopw [15] (fun _ wq=> ∃(left:Int→Prop) (cnt:Nat),Gu w W rr i ta tc K fm fr left cnt wq) (fun _ wq=>wq.rangeLeft W.heap.size rr)
   case atStart=>exact ⟨K,JY,S6.o⟩
   case round=>
    obtain ⟨left,cnt,L1⟩:=hrel;have ug:=ae L1;clear L1 S6;go_wp2_with (at_next;refine lH _ rfl _ rfl W.heap.size rr i K fm left cnt rfl ug.o.rg ?_ ?_)
    ·intro hl0
     have L1:=ug.o;have PJ:=L1.rg.YB;obtain ⟨bo,hbo⟩: ∃bo,bo=wr.heap.size:=⟨_,rfl⟩;have aeF:W.heap.size+1<bo:=by have:=L1.room.lt;omega
     have PC:=ae PJ;clear L1 PJ;go_upto_region 19 with(at_make;refine dF _ rfl _ _ 22 rfl 3 (.int .i64 0) 8 underlying22 Tryz.info_int rfl _ _ i rfl rfl (by go_num) (by go_num) (by omega) (by omega) ?_;intro w8 YW jD hz8)
     rw [←hbo]at YW⊢;have S8:Hid (Pn w W i ta tc K fm bo ((List.range 0).map (fun k:Nat=>(k:Int))++List.replicate (i-0) 0) w8):=⟨ug.o.ext.trans jD,ug.o.box.ext jD,ug.o.r1.ext jD,ug.o.r2.ext jD,PC.o.ext jD,by rw [List.range_zero,List.map_nil,List.nil_append,Nat.sub_zero,←DX];exact YW.o⟩;clear hbo YW jD hz8 PC ug;go_wp2_with fail
     go_loopw [138] (fun ii wq=> ∃j:Nat,j≤i∧Pn w W i ta tc K fm bo ((List.range j).map (fun k:Nat=>(k:Int))++List.replicate (i-j) 0) wq∧ii= .int .i64 j) (fun ii _=>i-(intOf ii).toNat)
     case atStart=>exact ⟨0,Nat.zero_le _,S8.o,rfl⟩
     case round=>
      obtain ⟨j,hj,hOr,rfl⟩:=hrel;clear S8;by_cases hlt:j<i
      ·obtain ⟨m,hm⟩: ∃m,i-j=m+1:=⟨i-j-1,by omega⟩
       have Oi:i-(j+1)=m:=by omega
       have eO:((List.range j).map (fun k:Nat=>(k:Int))).length=j:=by simp
       have aO:=hOr.ord;rw [hm]at aO
       have cO:wr.cell? ⟨bo,j,none⟩=some (.int .i64 0):=by
        rw [aO.cell,uk _ _ (by simp)];congr 2
        rw [List.getElem_append_right (by simp)];simp
       have fO:=aO.frozen j
       have D4:aJ (wr.setCell ⟨bo,j,none⟩ (.int .i64 (j:Nat))) bo 3 (lQ ((List.range (j+1)).map (fun k:Nat=>(k:Int))++List.replicate (i-(j+1)) 0)):=by
        have h5:=aO.set j (.int .i64 (j:Nat));have h6:=Gq ((List.range j).map (fun k:Nat=>(k:Int))) m (j:Int);rw [eO]at h6;rw [h6]at h5;rw [List.range_succ,List.map_append,Oi];exact h5
       have HO:Hid (Pn w W i ta tc K fm bo ((List.range (j+1)).map (fun k:Nat=>(k:Int))++List.replicate (i-(j+1)) 0) (wr.setCell ⟨bo,j,none⟩ (.int .i64 (j:Nat)))):=
        ⟨hOr.ext.setCell (by simp only;omega) _,hOr.box.other _ _ (by simp only;omega),hOr.r1.other _ _ (by simp only;omega),hOr.r2.other _ _ (by simp only;omega),hOr.qI.setCell _ _ (by simp only;omega),D4⟩
       clear D4 aO eO hOr hm Oi;go_wp2_with fail
       exact ⟨⟨j+1,by omega,HO.o,by go_num⟩,by simp only [intOf];omega⟩
      ·obtain rfl:i=j:=by omega
       rw [Nat.sub_self,List.replicate_zero,List.append_nil]at hOr;clear hj hlt;have aO:=hOr.ord;have YX:gi w wr:=hOr.ext.keeps
       have Kg: ∀V,nL bo wr V→ ∀x y:Nat,x<i→y<i→Calls prog 124 #[.int .i64 (x:Nat),.int .i64 (y:Nat),.pointer (some ⟨w.heap.size,0,none⟩)] V fun e w'=>e= .returned (.int .i64 (i7 (tO qs) x y))∧Ext V w':=fun V hV x y hx hy=>
        Pg V w.heap.size i L tc ta rs qs (hV.cell (by simp only;omega) (by have:=hOr.box.cell 0;simpa using this)) (HR.o.keeps (hV.old YX (by omega))) n1 (fun i h=>(wb.o i h).keeps (hV.old YX (by omega))) x y hx hy
       have M5:=Ck wr w.heap.size bo i i qs (by omega) Kg (fun k hk=>⟨by
        rw [aO.cell,uk _ _ (by simp;exact hk)];simp,aO.frozen k⟩)
       have hbl:=aO.lt;have HSO:=ae M5;have GZ:=ae hOr
       have hf: ∀k,0≤fm k∧fm k≤1099511627776:=by
        intro k;by_cases hk:K k
        ·exact ⟨(HG.o k hk).1,HFM.o k⟩
        ·rw [HFZ.o k hk];omega
       have Pq: ∀(os:List Nat),os.length=i→(∀x∈os,x<i)→ ∀V b',gi w V→aD V (some ⟨bo,0,none⟩) i (os.map fun(x:Nat)=>(x:Int))→cZ V b' i K fm→Calls prog 125 #[.slice ta i tc,.slice la i lc,.slice ha i hc,.slice ia i ic,.slice (some ⟨bo,0,none⟩) i i,.map (some b')] V fun e w'=> ∃r:ct,e= .returned (.agg #[.bool r.s,.slice r.a r.k r.c,.slice r.b r.j r.d])∧cT w' r (fY (qG qs) (aR lo) (aR hi) (aR bK) os fm) V.heap.size∧ar b' V w':=by
        intro os YD O4 V b' hV hI hM;have h5:=Gs V ta la ha ia (some ⟨bo,0,none⟩) tc lc hc ic i L i b' i rs qs lo hi bK os K fm (HR.o.keeps hV) (Ky.o.keeps hV) (Kz.o.keeps hV) (wA.o.keeps hV) hI hM n1 n2 n3 n4 O4 (by omega) (by omega) (fun i h=>(wb.o i h).keeps hV) YE.o HBS.o hf;rw [YD]at h5;exact h5
       have Mj:=Pq (dI qs i) (cW _ _) (fun x hx=>(kI _ _ _).1 hx);have hF2:=Pq (dI qs i).reverse (by rw [List.length_reverse,cW]) (fun x hx=>(kI _ _ _).1 (List.mem_reverse.1 hx));rw [←HP.o]at Mj;rw [←HQ.o]at hF2;have sj:=ae Mj;have CT:=ae hF2
       clear M5 Kg YX aO hOr hf Pq Mj hF2;go_wp2_with fail
       refine HSO.o.mono ?_;rintro e w9 ⟨rfl,YY⟩;have b9:=YY.but;have E9:Ext w w9:=b9.ext GZ.o.ext (by omega);have K9:gi w w9:=E9.keeps;have A9:=b9.arr (by omega) GZ.o.box;have P9:=b9.arr (by omega) GZ.o.r1;have Q9:=b9.arr (by omega) GZ.o.r2;have M9:=GZ.o.qI.but b9 (by omega);have N9:=YY.holds;have I9:aD w9 (some ⟨bo,0,none⟩) i ((dI qs i).map fun(x:Nat)=>(x:Int)):=yq w9 bo i _ (cW _ _) (by omega) (fun k hk=>(kI _ _ _).1 hk) (fun j hj=>(N9 j hj).1);have s9:bo<w9.heap.size:=Nat.lt_of_lt_of_le hbl b9.size;have Vm:=ae A9;have Vn:=ae P9;have HQ9:=ae Q9;have YZ:=ae M9;have HN9:=ae N9;have PN:=ae I9
       clear YY b9 A9 P9 Q9 M9 N9 I9 GZ HSO
       have JQ: ∀V,aJ V w.heap.size 122 [.slice ta i tc]→aJ V (w.heap.size+1) 119 kF→V.cell? ⟨w.heap.size,0,none⟩=some (.slice ta i tc)∧V.cell? ⟨w.heap.size+1,0,none⟩=some (.bool false)∧V.cell? ⟨w.heap.size+1,1,none⟩=some (.slice none 0 0)∧V.cell? ⟨w.heap.size+1,2,none⟩=some (.slice none 0 0)∧V.frozen? ⟨w.heap.size+1,0,none⟩=false∧V.frozen? ⟨w.heap.size+1,1,none⟩=false∧V.frozen? ⟨w.heap.size+1,2,none⟩=false:=fun V h1 h2=>by
        obtain ⟨p0,p1,p2,p3,p4,p5⟩:=aC h2 (Ext.refl _);exact ⟨by have:=h1.cell 0;simpa using this,p0,p1,p2,p3,p4,p5⟩
       have vL:=ae JQ;clear JQ;go_wp2_with fail
       refine dW (S:=fun w'=>w'.cell? ⟨w.heap.size,0,none⟩=some (.slice ta i tc)∧w'.cell? ⟨w.heap.size+1,0,none⟩=some (.bool false)∧w'.cell? ⟨w.heap.size+1,1,none⟩=some (.slice none 0 0)∧w'.cell? ⟨w.heap.size+1,2,none⟩=some (.slice none 0 0)∧w'.frozen? ⟨w.heap.size+1,0,none⟩=false∧w'.frozen? ⟨w.heap.size+1,1,none⟩=false∧w'.frozen? ⟨w.heap.size+1,2,none⟩=false) (fun i=>i==8) (by kernel_rfl) (vL.o _ (by exact Vm.o) (by exact Vn.o)) (fun aq=> ?_);refine bT 0 aq ?_ (v:= .slice ta i tc);refine bT 1 aq ?_ (v:= .slice la i lc);refine bT 2 aq ?_ (v:= .slice ha i hc);refine bT 3 aq ?_ (v:= .slice ia i ic);refine bT 4 aq ?_;refine bT 5 aq ?_ (v:= .map (some W.heap.size));refine bZ (rs:= [6]) (by kernel_rfl) (by simp) ?_;refine aU.cons rfl (fun Kc hK=> ?_) aU.nil;go_simp;refine (Pj w9.drew W.heap.size i K fm (by exact YZ.o.same rfl)).mono ?_;rintro e z1 ⟨b1,rfl,hb1,hb2,hM1,xz1⟩;have JZ:Ext w9 z1:=(Ext.refl _).drew.trans xz1;have aeJ:w9.heap.size≤b1:=hb1;refine hK.o _ _ (vL.o _ (Vm.o.ext JZ) (Vn.o.ext JZ)) (fun aq=> ?_);clear hK Kc;try simp only [sS]
       refine bZ (rs:= [7]) (by kernel_rfl) (by simp) ?_;refine aU.cons rfl (fun Kc hK=> ?_) aU.nil;go_simp;refine (sj.o z1 b1 (K9.trans JZ.keeps) (PN.o.ext JZ) hM1).mono ?_;rintro e z2 ⟨r,rfl,hr,Pr⟩;have A2:=Pr.arr (by omega) (Vm.o.ext JZ);have P2:=Pr.arr (by omega) (Vn.o.ext JZ);refine hK.o _ _ (vL.o _ A2 P2) (fun aq=> ?_);clear hK Kc;try simp only [sS]
       obtain ⟨e0,e1,e2,e3,e4,e5,e6⟩:=vL.o _ A2 P2;refine bZ (rs:= [8]) (by kernel_rfl) (by simp) ?_;refine aU.last rfl rfl (fun Kc hK=> ?_) aU.nil;go_simp;refine hK.o _ _ ?_;clear hK Kc;try simp only [sS]
       refine dV (by kernel_rfl) ?_ _;clear aq e0 e1 e2 e3 e4 e5 e6;have s2:=Pr.size;have s1:=JZ.size;have E1:Ext w z1:=E9.trans JZ;have E2:Ext w z2:=Pr.ext E1 (by omega);have Q2:=Pr.arr (by omega) (HQ9.o.ext JZ);have M2:=(YZ.o.ext JZ).but Pr (by omega);have N2:rZ z2 bo (dI qs i):=(HN9.o.same (JZ.below.block bo s9)).same (Pr.block bo (by omega) (by omega));obtain ⟨z3,hz3⟩: ∃z3,z3=((z2.setCell ⟨w.heap.size+1,0,none⟩ (.bool r.s)).setCell ⟨w.heap.size+1,1,none⟩ (.slice r.a r.k r.c)).setCell ⟨w.heap.size+1,2,none⟩ (.slice r.b r.j r.d):=⟨_,rfl⟩
       have hk3: ∀k,k≠w.heap.size+1→z3.heap[k]?=z2.heap[k]?:=by
        intro k hk;rw [hz3,Below.heap_setCell _ _ _ _ (by simpa using hk),Below.heap_setCell _ _ _ _ (by simpa using hk),Below.heap_setCell _ _ _ _ (by simpa using hk)]
       have E3:Ext w z3:=by rw [hz3];exact ((E2.setCell (p:=⟨w.heap.size+1,0,none⟩) (by simp only;omega) _).setCell (p:=⟨w.heap.size+1,1,none⟩) (by simp only;omega) _).setCell (p:=⟨w.heap.size+1,2,none⟩) (by simp only;omega) _
       have P3:aJ z3 (w.heap.size+1) 119 r.cells:=by rw [hz3];exact ((P2.set 0 _).set 1 _).set 2 _
       have A3:aJ z3 w.heap.size 122 [.slice ta i tc]:=by unfold aJ;rw [hk3 _ (by omega)];exact A2
       have Q3:aJ z3 (w.heap.size+2) 119 kF:=by unfold aJ;rw [hk3 _ (by omega)];exact Q2
       have M3:=M2.same (hk3 _ (by omega));have N3:=N2.same (hk3 _ (by omega));have R3:cT z3 r P z1.heap.size:=by rw [hz3];exact ((hr.setCell ⟨w.heap.size+1,0,none⟩ _ (by simp only;omega)).setCell ⟨w.heap.size+1,1,none⟩ _ (by simp only;omega)).setCell ⟨w.heap.size+1,2,none⟩ _ (by simp only;omega)
       have s3:z3.heap.size=z2.heap.size:=by rw [hz3];simp [World.setCell]
       clear hr E2 Q2 M2 N2 A2 P2 hk3;go_upto_region 26 with fail
       rw [←hz3];clear hz3;have hrv:=YM z3 bo i i (dI qs i) (cW _ _) (by omega) N3;have GP:=ae hrv;clear hrv N3;go_wp2_with fail
       refine GP.o.mono ?_;rintro e OI ⟨rfl,c11,t11⟩;have E11:Ext w OI:=t11.ext E3 (by omega);have A11:=t11.arr (by omega) A3;have P11:=t11.arr (by omega) P3;have Q11:=t11.arr (by omega) Q3;have M11:=M3.turn t11 (by omega);have I11:aD OI (some ⟨bo,0,none⟩) i ((dI qs i).reverse.map fun(x:Nat)=>(x:Int)):=yq OI bo i _ (by rw [List.length_reverse,cW]) (by omega) (fun k hk=>(kI _ _ _).1 (List.mem_reverse.1 hk)) c11;have R11:cT OI r P z1.heap.size:=R3.but t11.but (by omega);have kb:OI.cell? ⟨w.heap.size,0,none⟩=some (.slice ta i tc):=by have:=A11.cell 0;simpa using this
       have hf2:=CT.o OI W.heap.size E11.keeps I11 M11;have HFF:=ae hf2;have P8:=t11.size;clear hf2 c11 t11 A3 P3 Q3 M3 R3 I11 A11 M11;go_wp2_with fail
       refine HFF.o.mono ?_;rintro e Vo ⟨r',rfl,ku,L3⟩;have E12:Ext w Vo:=L3.ext E11 (by omega);have P12:=L3.arr (by omega) P11;have Y_:aJ Vo (w.heap.size+1+1) 119 kF:=L3.arr (by omega) Q11;have R12:cT Vo r P z1.heap.size:=R11.but L3 (by omega);obtain ⟨q0,q1,q2,q3,q4,q5⟩:=aC Y_ (Ext.refl _);obtain ⟨z4,Ps⟩: ∃z4,z4=((Vo.setCell ⟨w.heap.size+1+1,0,none⟩ (.bool r'.s)).setCell ⟨w.heap.size+1+1,1,none⟩ (.slice r'.a r'.k r'.c)).setCell ⟨w.heap.size+1+1,2,none⟩ (.slice r'.b r'.j r'.d):=⟨_,rfl⟩;have E4:Ext w z4:=by rw [Ps];exact ((E12.setCell (p:=⟨w.heap.size+1+1,0,none⟩) (by simp only;omega) _).setCell (p:=⟨w.heap.size+1+1,1,none⟩) (by simp only;omega) _).setCell (p:=⟨w.heap.size+1+1,2,none⟩) (by simp only;omega) _
       have Q4:aJ z4 (w.heap.size+1+1) 119 r'.cells:=by rw [Ps];exact ((Y_.set 0 _).set 1 _).set 2 _
       have P4:aJ z4 (w.heap.size+1) 119 r.cells:=by rw [Ps];exact ((P12.other ⟨w.heap.size+1+1,0,none⟩ _ (by simp only;omega)).other ⟨w.heap.size+1+1,1,none⟩ _ (by simp only;omega)).other ⟨w.heap.size+1+1,2,none⟩ _ (by simp only;omega)
       have R4:cT z4 r P (w.heap.size+3):=by rw [Ps];exact (((R12.setCell ⟨w.heap.size+1+1,0,none⟩ _ (by simp only;omega)).setCell ⟨w.heap.size+1+1,1,none⟩ _ (by simp only;omega)).setCell ⟨w.heap.size+1+1,2,none⟩ _ (by simp only;omega)).mono (by omega)
       have R4':cT z4 r' Q (w.heap.size+3):=by rw [Ps];exact (((ku.setCell ⟨w.heap.size+1+1,0,none⟩ _ (by simp only;omega)).setCell ⟨w.heap.size+1+1,1,none⟩ _ (by simp only;omega)).setCell ⟨w.heap.size+1+1,2,none⟩ _ (by simp only;omega)).mono (by omega)
       clear ku E12 P12 Y_ R12 R11 P11 Q11;go_upto_region 28 with fail
       rw [←Ps];clear Ps q0 q1 q2 q3 q4 q5;obtain ⟨q0,q1,q2,q3,q4,q5⟩:=aC Q4 (Ext.refl _);obtain ⟨p0,p1,p2,p3,p4,p5⟩:=aC P4 (Ext.refl _);have Y':=ae P4;have uG:=ae Q4
       have Uj:=ae R4;have Za:=ae R4';have N1:=ae E4
       clear R4 R4' E4 Q4 P4 HR Ky Kz wA xi HG HP HQ HFM HFZ sj CT Vm Vn HQ9 YZ HN9 PN vL GP HFF
       have JQ: ∀V,aJ V (w.heap.size+1) 119 r.cells→aJ V (w.heap.size+1+1) 119 r'.cells→V.cell? ⟨w.heap.size+1,0,none⟩=some (.bool r.s)∧V.cell? ⟨w.heap.size+1,1,none⟩=some (.slice r.a r.k r.c)∧V.cell? ⟨w.heap.size+1,2,none⟩=some (.slice r.b r.j r.d)∧V.frozen? ⟨w.heap.size+1,0,none⟩=false∧V.frozen? ⟨w.heap.size+1,1,none⟩=false∧V.frozen? ⟨w.heap.size+1,2,none⟩=false∧V.cell? ⟨w.heap.size+1+1,0,none⟩=some (.bool r'.s)∧V.cell? ⟨w.heap.size+1+1,1,none⟩=some (.slice r'.a r'.k r'.c)∧V.cell? ⟨w.heap.size+1+1,2,none⟩=some (.slice r'.b r'.j r'.d)∧V.frozen? ⟨w.heap.size+1+1,0,none⟩=false∧V.frozen? ⟨w.heap.size+1+1,1,none⟩=false∧V.frozen? ⟨w.heap.size+1+1,2,none⟩=false:=fun V h1 h2=>by
        obtain ⟨p0,p1,p2,p3,p4,p5⟩:=aC h1 (Ext.refl _);obtain ⟨q0,q1,q2,q3,q4,q5⟩:=aC h2 (Ext.refl _);exact ⟨p0,p1,p2,p3,p4,p5,q0,q1,q2,q3,q4,q5⟩
       have vL:=ae JQ;clear JQ;refine dW (S:=fun w'=>w'.cell? ⟨w.heap.size+1,0,none⟩=some (.bool r.s)∧w'.cell? ⟨w.heap.size+1,1,none⟩=some (.slice r.a r.k r.c)∧w'.cell? ⟨w.heap.size+1,2,none⟩=some (.slice r.b r.j r.d)∧w'.frozen? ⟨w.heap.size+1,0,none⟩=false∧w'.frozen? ⟨w.heap.size+1,1,none⟩=false∧w'.frozen? ⟨w.heap.size+1,2,none⟩=false∧w'.cell? ⟨w.heap.size+1+1,0,none⟩=some (.bool r'.s)∧w'.cell? ⟨w.heap.size+1+1,1,none⟩=some (.slice r'.a r'.k r'.c)∧w'.cell? ⟨w.heap.size+1+1,2,none⟩=some (.slice r'.b r'.j r'.d)∧w'.frozen? ⟨w.heap.size+1+1,0,none⟩=false∧w'.frozen? ⟨w.heap.size+1+1,1,none⟩=false∧w'.frozen? ⟨w.heap.size+1+1,2,none⟩=false) (fun i=>false) (by kernel_rfl) (vL.o _ (by exact Y'.o) (by exact uG.o)) (fun aq=> ?_);refine bT 0 aq ?_ (v:= .agg #[.bool r.s,.slice r.a r.k r.c,.slice r.b r.j r.d]);refine bT 1 aq ?_ (v:= .agg #[.bool r'.s,.slice r'.a r'.k r'.c,.slice r'.b r'.j r'.d]);have Zb:aJ ((((z4).setCell ⟨w.heap.size+1,0,none⟩ (.bool r.s)).setCell ⟨w.heap.size+1,1,none⟩ (.slice r.a r.k r.c)).setCell ⟨w.heap.size+1,2,none⟩ (.slice r.b r.j r.d)) (w.heap.size+1) 119 r.cells:=((Y'.o.set 0 _).set 1 _).set 2 _;have Zc:aJ ((((z4).setCell ⟨w.heap.size+1,0,none⟩ (.bool r.s)).setCell ⟨w.heap.size+1,1,none⟩ (.slice r.a r.k r.c)).setCell ⟨w.heap.size+1,2,none⟩ (.slice r.b r.j r.d)) (w.heap.size+1+1) 119 r'.cells:=((uG.o.other ⟨w.heap.size+1,0,none⟩ _ (by simp only;omega)).other ⟨w.heap.size+1,1,none⟩ _ (by simp only;omega)).other ⟨w.heap.size+1,2,none⟩ _ (by simp only;omega);have F1':aJ (((((((z4).setCell ⟨w.heap.size+1,0,none⟩ (.bool r.s)).setCell ⟨w.heap.size+1,1,none⟩ (.slice r.a r.k r.c)).setCell ⟨w.heap.size+1,2,none⟩ (.slice r.b r.j r.d)).setCell ⟨w.heap.size+1+1,0,none⟩ (.bool r'.s)).setCell ⟨w.heap.size+1+1,1,none⟩ (.slice r'.a r'.k r'.c)).setCell ⟨w.heap.size+1+1,2,none⟩ (.slice r'.b r'.j r'.d)) (w.heap.size+1) 119 r.cells:=((Zb.other ⟨w.heap.size+1+1,0,none⟩ _ (by simp only;omega)).other ⟨w.heap.size+1+1,1,none⟩ _ (by simp only;omega)).other ⟨w.heap.size+1+1,2,none⟩ _ (by simp only;omega);have F2':aJ (((((((z4).setCell ⟨w.heap.size+1,0,none⟩ (.bool r.s)).setCell ⟨w.heap.size+1,1,none⟩ (.slice r.a r.k r.c)).setCell ⟨w.heap.size+1,2,none⟩ (.slice r.b r.j r.d)).setCell ⟨w.heap.size+1+1,0,none⟩ (.bool r'.s)).setCell ⟨w.heap.size+1+1,1,none⟩ (.slice r'.a r'.k r'.c)).setCell ⟨w.heap.size+1+1,2,none⟩ (.slice r'.b r'.j r'.d)) (w.heap.size+1+1) 119 r'.cells:=((Zc.set 0 _).set 1 _).set 2 _;have D1:aJ ((((z4).setCell ⟨w.heap.size+1,0,none⟩ (.bool r.s)).setCell ⟨w.heap.size+1,1,none⟩ (.slice r.a r.k r.c)).setCell ⟨w.heap.size+1,2,none⟩ (.slice r.b r.j r.d)).drew (w.heap.size+1) 119 r.cells:=Zb.Fb;have D2:aJ ((((z4).setCell ⟨w.heap.size+1,0,none⟩ (.bool r.s)).setCell ⟨w.heap.size+1,1,none⟩ (.slice r.a r.k r.c)).setCell ⟨w.heap.size+1,2,none⟩ (.slice r.b r.j r.d)).drew (w.heap.size+1+1) 119 r'.cells:=Zc.Fb;have F1:aJ (((((((z4).setCell ⟨w.heap.size+1,0,none⟩ (.bool r.s)).setCell ⟨w.heap.size+1,1,none⟩ (.slice r.a r.k r.c)).setCell ⟨w.heap.size+1,2,none⟩ (.slice r.b r.j r.d)).setCell ⟨w.heap.size+1+1,0,none⟩ (.bool r'.s)).setCell ⟨w.heap.size+1+1,1,none⟩ (.slice r'.a r'.k r'.c)).setCell ⟨w.heap.size+1+1,2,none⟩ (.slice r'.b r'.j r'.d)).drew (w.heap.size+1) 119 r.cells:=F1'.Fb;have F2:aJ (((((((z4).setCell ⟨w.heap.size+1,0,none⟩ (.bool r.s)).setCell ⟨w.heap.size+1,1,none⟩ (.slice r.a r.k r.c)).setCell ⟨w.heap.size+1,2,none⟩ (.slice r.b r.j r.d)).setCell ⟨w.heap.size+1+1,0,none⟩ (.bool r'.s)).setCell ⟨w.heap.size+1+1,1,none⟩ (.slice r'.a r'.k r'.c)).setCell ⟨w.heap.size+1+1,2,none⟩ (.slice r'.b r'.j r'.d)).drew (w.heap.size+1+1) 119 r'.cells:=F2'.Fb;clear Zb Zc F1' F2';obtain ⟨e0,e1,e2,e3,e4,e5,e6,e7,e8,e9,Kh,e11⟩:=aq;have aq:=vL.o z4.drew (by exact Y'.o) (by exact uG.o);refine bZ (rs:= [2]) (by kernel_rfl) (by simp) ?_;refine aU.cons rfl (fun Kc hK=> ?_) aU.nil;go_simp;refine hK.o _ _ (vL.o _ D1 D2) (fun aq=> ?_);clear hK Kc;try simp only [sS]
       clear e0 e1 e2 e3 e4 e5 e6 e7 e8 e9 Kh e11;obtain ⟨e0,e1,e2,e3,e4,e5,e6,e7,e8,e9,Kh,e11⟩:=vL.o _ D1 D2;refine bZ (rs:= [3]) (by kernel_rfl) (by simp) ?_;refine aU.cons rfl (fun Kc hK=> ?_) aU.nil;go_simp;refine hK.o _ _ (vL.o _ F1 F2) (fun aq=> ?_);clear hK Kc;try simp only [sS]
       clear e0 e1 e2 e3 e4 e5 e6 e7 e8 e9 Kh e11;refine bT 4 aq ?_;refine dV (by kernel_rfl) ?_ _;obtain ⟨e0,e1,e2,e3,e4,e5,e6,e7,e8,e9,Kh,e11⟩:=vL.o _ F1 F2;clear aq D1 D2 F1 F2;go_wp2_with fail
       refine bodyPost_ret (v:= .tuple #[.agg #[.bool r.s,.slice r.a r.k r.c,.slice r.b r.j r.d],.agg #[.bool r'.s,.slice r'.a r'.k r'.c,.slice r'.b r'.j r'.d],.bool true]) (by simp [results,results72,go_sem,e0,e1,e2,e6,e7,e8]) rfl ⟨r,r',rfl,?_,?_,?_⟩
       ·exact (((Uj.o.Fc (w.heap.size+1) (by omega)).Fc (w.heap.size+1+1) (by omega)).ext (Ext.refl _).drew).mono (by omega)
       ·exact (((Za.o.Fc (w.heap.size+1) (by omega)).Fc (w.heap.size+1+1) (by omega)).ext (Ext.refl _).drew).mono (by omega)
       ·exact (Ext.yr (Ext.yr N1.o (by omega)) (by omega)).drew
    ·intro x w7 J0 Pt hlx hfx L4 Pu zX hen
     have hgx:=HG.o x (ug.o.sub x hlx);have Pv:=ug.o.room.turn zX (show W.heap.size+1≠rr by omega);have TV:=Pv.look Pt;have t1:decide (fm x<0)=false:=by simp;omega
     have t2:decide (fr x<fm x)=false:=by simp;omega
     have S7:Hid (Gu w W rr i ta tc K fm fr (fun k=>left k∧k≠x) J0 w7):=⟨zX.ext ug.o.ext (by omega),zX.arr (by omega) ug.o.box,zX.arr (by omega) ug.o.r1,zX.arr (by omega) ug.o.r2,L4,fun k hk=>ug.o.sub k hk.1,Pv⟩;have Dk:w7.rangeLeft W.heap.size rr<wr.rangeLeft W.heap.size rr:=by rw [L4.left_eq,ug.o.rg.left_eq];exact Pu
     clear hgx Pv L4 zX;go_wp2_with fail
     exact ⟨⟨_,J0,S7.o⟩,Dk⟩
end Go.Proofs.YtkpngkdgphojlaaGreat
