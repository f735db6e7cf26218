/- Texts of the proof. -/
import Derived.Test.YtkpngkdgphojlaaGreatRows
import Derived.Test.YtkpngkdgphojlaaGreatChecked
import Derived.Test.YtkpngkdgphojlaaGreatCd3
import Derived.Test.YtkpngkdgphojlaaGreatCd30
set_option linter.all false
set_option maxHeartbeats 20000000
set_option maxRecDepth 100000
namespace Go.Proofs.YtkpngkdgphojlaaGreat
open Go.Proofs.Tryz
open Go.RowKit
theorem yf {w:World} {b:Nat} {p:Addr} {x v0 v1 v2:Value} (h:w.cell? p=some x) (hb:p.block≠b):(((w.setCell ⟨b,0,none⟩ v0).setCell ⟨b,1,none⟩ v1).setCell ⟨b,2,none⟩ v2).cell? p=some x:=by
 rw [World.cell?_setCell_other _ _ _ _ (by intro e;exact hb (by rw [←e])),World.cell?_setCell_other _ _ _ _ (by intro e;exact hb (by rw [←e])),World.cell?_setCell_other _ _ _ _ (by intro e;exact hb (by rw [←e])),h]
theorem BW {w:World} {o:Obj} {p:Addr} {x:Value} (h:w.cell? p=some x):(w.alloc o).cell? p=some x:=aj ((Ext.refl _).alloc _) h
theorem vw {w:World} {p:Addr} {x:Value} (h:w.cell? p=some x):w.drew.cell? p=some x:=h
theorem Raw.alloc' {w:World} {a:Option Addr} {k c n:Nat} (h:Raw w a k c n) (o:Obj):Raw (w.alloc o) a k c n:=h.ext ((Ext.refl _).alloc _)
theorem aJ.DK (w:World) (o:Obj) (T:TypeId) (vs:List Value):aJ ((w.alloc o).alloc (.cells vs.toArray T)) (w.heap.size+1) T vs:=by
 have h:=aJ.alloc (w.alloc o) T vs;rw [show(w.alloc o).heap.size=w.heap.size+1 from by simp]at h;exact h
theorem aJ.alloc_at {w:World} {b:Nat} (T:TypeId) (vs:List Value) (_:Unit) (h:w.heap.size=b):aJ (w.alloc (.cells vs.toArray T)) b T vs:=h▸aJ.alloc w T vs
theorem aJ.F9 {w:World} {b:Nat} {T:TypeId} {x y z:Value} (h:aJ w b T [x,y,z]) (u v t:Value):aJ (((w.setCell ⟨b,0,none⟩ u).setCell ⟨b,1,none⟩ v).setCell ⟨b,2,none⟩ t) b T [u,v,t]:=((h.set 0 u).set 1 v).set 2 t
theorem aJ.DL {w:World} {b b':Nat} {T:TypeId} {vs:List Value} (h:aJ w b T vs) (u v t:Value) (hb:b'≠b):aJ (((w.setCell ⟨b',0,none⟩ u).setCell ⟨b',1,none⟩ v).setCell ⟨b',2,none⟩ t) b T vs:=((h.other _ _ hb).other _ _ hb).other _ _ hb
theorem BZ (w:World) (s:Bool) (a b:Option Addr) (k c j d:Nat) (s':Bool) (a' b':Option Addr) (k' c' j' d':Nat) (sP sQ s1 s2 s3 s4 sR:Bool) (nP dP nQ dQ n1 n2 n3 n4 nR dR:Nat) (hN: ∀V,Ext w V→Calls prog 129 #[.agg #[.bool s,.slice a k c,.slice b j d]] V (dY sP nP dP V)) (U9: ∀V,Ext w V→Calls prog 129 #[.agg #[.bool s',.slice a' k' c',.slice b' j' d']] V (dY sQ nQ dQ V)) (hD: ∀V,Ext w V→Calls prog 213 #[.agg #[.bool s,.slice a k c,.slice b j d]] V (gh false dP V)) (U_: ∀V,Ext w V→Calls prog 213 #[.agg #[.bool s',.slice a' k' c',.slice b' j' d']] V (gh false dQ V)) (hX: ∀V a c b d,Raw V a (len nP) c nP→Raw V b (len dQ) d dQ→Calls prog 212 #[.agg #[.bool sP,.slice a (len nP) c],.agg #[.bool false,.slice b (len dQ) d]] V (gh s1 n1 V)) (hY: ∀V a c b d,Raw V a (len nQ) c nQ→Raw V b (len dP) d dP→Calls prog 212 #[.agg #[.bool sQ,.slice a (len nQ) c],.agg #[.bool false,.slice b (len dP) d]] V (gh s2 n2 V)) (hA: ∀V a c b d,Raw V a (len n1) c n1→Raw V b (len n2) d n2→Calls prog 208 #[.agg #[.bool s1,.slice a (len n1) c],.agg #[.bool s2,.slice b (len n2) d]] V (gh s3 n3 V)) (hZ: ∀V a c b d,Raw V a (len dP) c dP→Raw V b (len dQ) d dQ→Calls prog 212 #[.agg #[.bool false,.slice a (len dP) c],.agg #[.bool false,.slice b (len dQ) d]] V (gh s4 n4 V)) (hM: ∀V a c b d,Raw V a (len n3) c n3→Raw V b (len n4) d n4→Calls prog 117 #[.agg #[.bool s3,.slice a (len n3) c],.agg #[.bool s4,.slice b (len n4) d]] V (dY sR nR dR V)):
 Calls prog 179 #[.agg #[.bool s,.slice a k c,.slice b j d],.agg #[.bool s',.slice a' k' c',.slice b' j' d']] w (dY sR nR dR w):=by
 have HN:=ae hN;have XU:=ae U9;have HD:=ae hD;have HD':=ae U_;have HX:=ae hX;have HY:=ae hY;have HA:=ae hA;have HZ:=ae hZ;have HM:=ae hM;clear hN U9 hD U_ hX hY hA hZ hM
 have U8:=Tryz.rat_num;have U7:=Tryz.rat_den;go_enter func179,ntmps179
 go_wp2_with fail
 obtain ⟨W,hW,x0,Z0,A0,A1,A2⟩:=eT w 119 [.bool s,.slice a k c,.slice b j d] 119 [.bool s',.slice a' k' c',.slice b' j' d'] 119 [.bool false,.slice none 0 0,.slice none 0 0];rw [←hW];clear hW;obtain ⟨aK,bf,dE,bN,bO,fG⟩:=aC A0 (Ext.refl _);have z0:=(A0.ext (Ext.refl _)).lt;obtain ⟨aT,bH,eV,cM,cN,iX⟩:=aC A1 (Ext.refl _);have z1:=(A1.ext (Ext.refl _)).lt;obtain ⟨bD,bY,fj,cQ,cR,fV⟩:=aC A2 (Ext.refl _);have z2:=(A2.ext (Ext.refl _)).lt;have sW0:w.heap.size<W.heap.size:=by rw [Z0.o];omega
 have sW1:w.heap.size+1<W.heap.size:=by rw [Z0.o];omega
 clear bN bO fG cM cN iX cQ cR fV bD bY fj z2;have tk1:True:=trivial;go_cut [5,6] (fun s5 s6 wx=> ∃(g5 g6:Nat) (a1 b1 a2 b2:Option Addr) (c1 d1 c2 d2:Nat),s5= .pointer (some ⟨g5,0,none⟩)∧s6= .pointer (some ⟨g6,0,none⟩)∧W.heap.size≤g5∧W.heap.size≤g6∧Hid (aJ wx g5 119 [.bool sP,.slice a1 (len nP) c1,.slice b1 (len dP) d1])∧Hid (aJ wx g6 119 [.bool sQ,.slice a2 (len nQ) c2,.slice b2 (len dQ) d2])∧Raw wx a1 (len nP) c1 nP∧Raw wx a2 (len nQ) c2 nQ∧Ext W wx)
 case first=>
  go_region_held3 (fun w'=>w'.cell? ⟨w.heap.size,0,none⟩=some (.bool s)∧w'.cell? ⟨w.heap.size,1,none⟩=some (.slice a k c)∧w'.cell? ⟨w.heap.size,2,none⟩=some (.slice b j d)∧w'.cell? ⟨w.heap.size+1,0,none⟩=some (.bool s')∧w'.cell? ⟨w.heap.size+1,1,none⟩=some (.slice a' k' c')∧w'.cell? ⟨w.heap.size+1,2,none⟩=some (.slice b' j' d')) (first|with_reducible exact ⟨aK,bf,dE,aT,bH,eV⟩|(refine ⟨?_,?_,?_,?_,?_,?_⟩<;>(repeat(with_reducible first|exact aK|exact bf|exact dE|exact aT|exact bH|exact eV|refine yf ?_ (by simp only;omega)|refine BW ?_|refine vw ?_)))) (first
   |(go_at_call 129;have _t:=tk1;(with_reducible refine (HN.o _ (by repeat(first|exact x0|exact Ext.refl _|refine Ext.drew ?_|refine Ext.alloc ?_ _))).mono ?_);rintro e w1 ⟨a1,c1,b1,d1,rfl,r1,f1,q1,g1,x1⟩;clear tk1 _t;have v1:Ext W w1:=(by refine Ext.trans ?_ x1;repeat(with_reducible first|exact Ext.refl _|refine Ext.drew ?_|refine Ext.alloc ?_ _));clear aK bf dE aT bH eV;obtain ⟨aK,bf,dE,-,-,-⟩:=aC A0 v1;obtain ⟨aT,bH,eV,-,-,-⟩:=aC A1 v1;have z0:=(A0.ext v1).lt;have z1:=(A1.ext v1).lt;(first|(have y1:Ext ((W.alloc (.cells #[.bool false,.slice none 0 0,.slice none 0 0] 119)).alloc (.cells #[.bool false,.slice none 0 0,.slice none 0 0] 119)) w1:=(by with_reducible exact Ext.trans (Ext.drew (Ext.refl _)) x1);have RC:aJ w1 (W.heap.size+1) 119 [.bool false,.slice none 0 0,.slice none 0 0]:=(aJ.DK W (.cells #[.bool false,.slice none 0 0,.slice none 0 0] 119) 119 [.bool false,.slice none 0 0,.slice none 0 0]).ext y1;have RB:aJ w1 W.heap.size 119 [.bool false,.slice none 0 0,.slice none 0 0]:=((aJ.alloc W 119 [.bool false,.slice none 0 0,.slice none 0 0]).ext ((Ext.refl _).alloc (.cells #[.bool false,.slice none 0 0,.slice none 0 0] 119))).ext y1;obtain ⟨m0,m1,m2,m3,m4,m5⟩:=aC RB (Ext.refl _);have mz:=RB.lt;obtain ⟨l0,l1,l2,l3,l4,l5⟩:=aC RC (Ext.refl _);have lz:=RC.lt)|(have y1:Ext (W.alloc (.cells #[.bool false,.slice none 0 0,.slice none 0 0] 119)) w1:=(by with_reducible exact Ext.trans (Ext.drew (Ext.refl _)) x1);have RB:aJ w1 W.heap.size 119 [.bool false,.slice none 0 0,.slice none 0 0]:=(aJ.alloc W 119 [.bool false,.slice none 0 0,.slice none 0 0]).ext y1;obtain ⟨m0,m1,m2,m3,m4,m5⟩:=aC RB (Ext.refl _);have mz:=RB.lt)|skip))
   |(go_at_call 129;(with_reducible refine (XU.o _ (by refine x0.trans ?_;repeat(first|exact v1|refine Ext.drew ?_|refine Ext.alloc ?_ _))).mono ?_);rintro e w2 ⟨a2,c2,b2,d2,rfl,r2,f2,q2,g2,x2⟩;have v2:Ext W w2:=(by refine Ext.trans ?_ x2;repeat(with_reducible first|exact v1|refine Ext.drew ?_|refine Ext.alloc ?_ _));clear aK bf dE aT bH eV;obtain ⟨aK,bf,dE,-,-,-⟩:=aC A0 v2;obtain ⟨aT,bH,eV,-,-,-⟩:=aC A1 v2;have z0:=(A0.ext v2).lt;have z1:=(A1.ext v2).lt;(first|(have RB:=RB.ext (by with_reducible exact x2);have RC:=RC.ext x2;obtain ⟨m0,m1,m2,m3,m4,m5⟩:=aC RB (Ext.refl _);have mz:=RB.lt;obtain ⟨l0,l1,l2,l3,l4,l5⟩:=aC RC (Ext.refl _);have lz:=RC.lt)|(have y1:Ext (w1.alloc (.cells #[.bool false,.slice none 0 0,.slice none 0 0] 119)) w2:=(by with_reducible exact x2);have nn1:=RB.lt;have RC:aJ w2 w1.heap.size 119 [.bool false,.slice none 0 0,.slice none 0 0]:=(aJ.alloc w1 119 [.bool false,.slice none 0 0,.slice none 0 0]).ext y1;have RB:=RB.ext (Ext.trans ((Ext.refl _).alloc (.cells #[.bool false,.slice none 0 0,.slice none 0 0] 119)) y1);obtain ⟨m0,m1,m2,m3,m4,m5⟩:=aC RB (Ext.refl _);have mz:=RB.lt;obtain ⟨l0,l1,l2,l3,l4,l5⟩:=aC RC (Ext.refl _);have lz:=RC.lt)|(have RB:=RB.ext (by with_reducible exact x2);obtain ⟨m0,m1,m2,m3,m4,m5⟩:=aC RB (Ext.refl _);have mz:=RB.lt)|(have y1:Ext ((w1.alloc (.cells #[.bool false,.slice none 0 0,.slice none 0 0] 119)).alloc (.cells #[.bool false,.slice none 0 0,.slice none 0 0] 119)) w2:=(by with_reducible exact x2);have RC:aJ w2 (w1.heap.size+1) 119 [.bool false,.slice none 0 0,.slice none 0 0]:=(aJ.DK w1 (.cells #[.bool false,.slice none 0 0,.slice none 0 0] 119) 119 [.bool false,.slice none 0 0,.slice none 0 0]).ext y1;have RB:aJ w2 w1.heap.size 119 [.bool false,.slice none 0 0,.slice none 0 0]:=((aJ.alloc w1 119 [.bool false,.slice none 0 0,.slice none 0 0]).ext ((Ext.refl _).alloc (.cells #[.bool false,.slice none 0 0,.slice none 0 0] 119))).ext y1;obtain ⟨m0,m1,m2,m3,m4,m5⟩:=aC RB (Ext.refl _);have mz:=RB.lt;obtain ⟨l0,l1,l2,l3,l4,l5⟩:=aC RC (Ext.refl _);have lz:=RC.lt)|(have y1:Ext (w1.alloc (.cells #[.bool false,.slice none 0 0,.slice none 0 0] 119)) w2:=(by with_reducible exact x2);have RB:aJ w2 w1.heap.size 119 [.bool false,.slice none 0 0,.slice none 0 0]:=(aJ.alloc w1 119 [.bool false,.slice none 0 0,.slice none 0 0]).ext y1;obtain ⟨m0,m1,m2,m3,m4,m5⟩:=aC RB (Ext.refl _);have mz:=RB.lt)|skip)))
  all_goals go_wp2_with fail
  all_goals go_meet
  all_goals have sz1:=x1.size
  all_goals have sz2:=x2.size
  all_goals simp at sz1 sz2
  all_goals refine ⟨_,_,a1,b1,a2,b2,c1,d1,c2,d2,rfl,rfl,?_,?_,?_,?_,?_,?_,?_⟩
  all_goals have y2:Ext w1 w2:=(by refine Ext.trans ?_ x2;repeat(with_reducible first|exact Ext.refl _|refine Ext.drew ?_|refine Ext.alloc ?_ _))
  all_goals have p1:=r1.ext y2
  all_goals have o1:=v1.size
  all_goals have o2:=y2.size
  all_goals first
   |(with_reducible refine ae ?_;(repeat(with_reducible first|exact aJ.alloc _ _ _|exact aJ.DK _ _ _ _|(refine aJ.alloc_at _ _ () ?_;simp;done)|exact RB|exact RC|exact RB.F9 _ _ _|exact RC.F9 _ _ _|(refine (RB.DL _ _ _ ?_).F9 _ _ _;omega)|(refine (RC.DL _ _ _ ?_).F9 _ _ _;omega)|(refine aJ.DL ?_ _ _ _ ?_;rotate_left;(·omega))|refine aJ.alloc' ?_ _));done)
   |((repeat(with_reducible first|exact p1|refine Raw.alloc' ?_ _|(refine Raw.setCell ?_ _ _ (f1.ne ?_);rotate_left;(·first|(simp;done)|(simp only;omega)|(simp;omega)))|(refine Raw.Oh r1 ?_ _ _ ?_;rotate_left;(·first|(simp;done)|(simp only;omega)|(simp;omega)))));done)
   |((repeat(with_reducible first|exact r2|refine Raw.alloc' ?_ _|(refine Raw.setCell ?_ _ _ (f2.ne ?_);rotate_left;(·first|(simp;done)|(simp only;omega)|(simp;omega)))));done)
   |((repeat(with_reducible first|exact v2|refine Ext.alloc ?_ _|(refine Ext.setCell ?_ ?_ _;rotate_left;(·first|(simp;done)|(simp only;omega)|(simp;omega)))));done)
   |omega
 case rest=>
  obtain ⟨g5,g6,a1,b1,a2,b2,c1,d1,c2,d2,rfl,rfl,s5,s6,G5,G6,r1,r2,hx⟩:=hcut;have n5:w.heap.size+3≤g5:=by have:=Z0.o;omega
  have n6:w.heap.size+3≤g6:=by have:=Z0.o;omega
  clear aK bf dE aT bH eV z0 z1;obtain ⟨aK,bf,dE,bN,bO,fG⟩:=aC A0 hx;have z0:=(A0.ext hx).lt;obtain ⟨aT,bH,eV,cM,cN,iX⟩:=aC A1 hx;have z1:=(A1.ext hx).lt;obtain ⟨bD,bY,fj,cQ,cR,fV⟩:=aC A2 hx;have z2:=(A2.ext hx).lt;obtain ⟨m0,m1,m2,-,-,-⟩:=aC G5.o (Ext.refl _);obtain ⟨l0,l1,l2,-,-,-⟩:=aC G6.o (Ext.refl _);have tk3:True:=trivial;have tk4:True:=trivial;have tk5:True:=trivial;have tk6:True:=trivial;have tk8:True:=trivial;go_wp2_with fail
  go_region_held3 (fun w'=>w'.cell? ⟨w.heap.size,0,none⟩=some (.bool s)∧w'.cell? ⟨w.heap.size,1,none⟩=some (.slice a k c)∧w'.cell? ⟨w.heap.size,2,none⟩=some (.slice b j d)∧w'.cell? ⟨w.heap.size+1,0,none⟩=some (.bool s')∧w'.cell? ⟨w.heap.size+1,1,none⟩=some (.slice a' k' c')∧w'.cell? ⟨w.heap.size+1,2,none⟩=some (.slice b' j' d')∧w'.cell? ⟨g5,0,none⟩=some (.bool sP)∧w'.cell? ⟨g5,1,none⟩=some (.slice a1 (len nP) c1)∧w'.cell? ⟨g6,0,none⟩=some (.bool sQ)∧w'.cell? ⟨g6,1,none⟩=some (.slice a2 (len nQ) c2)) (first|with_reducible exact ⟨aK,bf,dE,aT,bH,eV,m0,m1,l0,l1⟩|(refine ⟨?_,?_,?_,?_,?_,?_,?_,?_,?_,?_⟩<;>(repeat(with_reducible first|exact aK|exact bf|exact dE|exact aT|exact bH|exact eV|exact m0|exact m1|exact l0|exact l1|refine vw ?_|(refine yf ?_ ?_;rotate_left;(·simp only;omega)))))) (first
   |(go_at_call 213;have _t:=tk3;refine (HD'.o _ (x0.trans hx.drew)).mono ?_;rintro e w3 ⟨a3,c3,rfl,r3,f3,x3⟩;clear tk3 _t;obtain ⟨aK,bf,dE,bN,bO,fG⟩:=aC A0 (hx.drew.trans x3);have z0:=(A0.ext (hx.drew.trans x3)).lt;obtain ⟨aT,bH,eV,cM,cN,iX⟩:=aC A1 (hx.drew.trans x3);have z1:=(A1.ext (hx.drew.trans x3)).lt;obtain ⟨bD,bY,fj,cQ,cR,fV⟩:=aC A2 (hx.drew.trans x3);have z2:=(A2.ext (hx.drew.trans x3)).lt;obtain ⟨m0,m1,m2,-,-,-⟩:=aC G5.o (((Ext.refl _).drew).trans x3);obtain ⟨l0,l1,l2,-,-,-⟩:=aC G6.o (((Ext.refl _).drew).trans x3))
   |(go_at_call 212;have _t:=tk4;refine (HX.o _ _ _ _ _ (r1.ext (((Ext.refl _).drew).trans x3)) r3).mono ?_;rintro e w4 ⟨a4,c4,rfl,r4,f4,x4⟩;clear tk4 _t;obtain ⟨aK,bf,dE,bN,bO,fG⟩:=aC A0 ((hx.drew.trans x3).trans x4);have z0:=(A0.ext ((hx.drew.trans x3).trans x4)).lt;obtain ⟨aT,bH,eV,cM,cN,iX⟩:=aC A1 ((hx.drew.trans x3).trans x4);have z1:=(A1.ext ((hx.drew.trans x3).trans x4)).lt;obtain ⟨bD,bY,fj,cQ,cR,fV⟩:=aC A2 ((hx.drew.trans x3).trans x4);have z2:=(A2.ext ((hx.drew.trans x3).trans x4)).lt;obtain ⟨m0,m1,m2,-,-,-⟩:=aC G5.o ((((Ext.refl _).drew).trans x3).trans x4);obtain ⟨l0,l1,l2,-,-,-⟩:=aC G6.o ((((Ext.refl _).drew).trans x3).trans x4))
   |(go_at_call 213;have _t:=tk5;refine (HD.o _ (x0.trans ((hx.drew.trans x3).trans x4))).mono ?_;rintro e w5 ⟨a5,c5,rfl,r5,f5,x5⟩;clear tk5 _t;obtain ⟨aK,bf,dE,bN,bO,fG⟩:=aC A0 (((hx.drew.trans x3).trans x4).trans x5);have z0:=(A0.ext (((hx.drew.trans x3).trans x4).trans x5)).lt;obtain ⟨aT,bH,eV,cM,cN,iX⟩:=aC A1 (((hx.drew.trans x3).trans x4).trans x5);have z1:=(A1.ext (((hx.drew.trans x3).trans x4).trans x5)).lt;obtain ⟨bD,bY,fj,cQ,cR,fV⟩:=aC A2 (((hx.drew.trans x3).trans x4).trans x5);have z2:=(A2.ext (((hx.drew.trans x3).trans x4).trans x5)).lt;obtain ⟨m0,m1,m2,-,-,-⟩:=aC G5.o (((((Ext.refl _).drew).trans x3).trans x4).trans x5);obtain ⟨l0,l1,l2,-,-,-⟩:=aC G6.o (((((Ext.refl _).drew).trans x3).trans x4).trans x5))
   |(go_at_call 212;have _t:=tk6;refine (HY.o _ _ _ _ _ (r2.ext (((((Ext.refl _).drew).trans x3).trans x4).trans x5)) r5).mono ?_;rintro e w6 ⟨a6,c6,rfl,r6,f6,x6⟩;clear tk6 _t;obtain ⟨aK,bf,dE,bN,bO,fG⟩:=aC A0 ((((hx.drew.trans x3).trans x4).trans x5).trans x6);have z0:=(A0.ext ((((hx.drew.trans x3).trans x4).trans x5).trans x6)).lt;obtain ⟨aT,bH,eV,cM,cN,iX⟩:=aC A1 ((((hx.drew.trans x3).trans x4).trans x5).trans x6);have z1:=(A1.ext ((((hx.drew.trans x3).trans x4).trans x5).trans x6)).lt;obtain ⟨bD,bY,fj,cQ,cR,fV⟩:=aC A2 ((((hx.drew.trans x3).trans x4).trans x5).trans x6);have z2:=(A2.ext ((((hx.drew.trans x3).trans x4).trans x5).trans x6)).lt;obtain ⟨m0,m1,m2,-,-,-⟩:=aC G5.o ((((((Ext.refl _).drew).trans x3).trans x4).trans x5).trans x6);obtain ⟨l0,l1,l2,-,-,-⟩:=aC G6.o ((((((Ext.refl _).drew).trans x3).trans x4).trans x5).trans x6))
   |(go_at_call 208;refine (HA.o _ _ _ _ _ ((r4.ext x5).ext x6) r6).mono ?_;rintro e w7 ⟨a7,c7,rfl,r7,f7,x7⟩;obtain ⟨aK,bf,dE,bN,bO,fG⟩:=aC A0 (((((hx.drew.trans x3).trans x4).trans x5).trans x6).trans x7);have z0:=(A0.ext (((((hx.drew.trans x3).trans x4).trans x5).trans x6).trans x7)).lt;obtain ⟨aT,bH,eV,cM,cN,iX⟩:=aC A1 (((((hx.drew.trans x3).trans x4).trans x5).trans x6).trans x7);have z1:=(A1.ext (((((hx.drew.trans x3).trans x4).trans x5).trans x6).trans x7)).lt;obtain ⟨bD,bY,fj,cQ,cR,fV⟩:=aC A2 (((((hx.drew.trans x3).trans x4).trans x5).trans x6).trans x7);have z2:=(A2.ext (((((hx.drew.trans x3).trans x4).trans x5).trans x6).trans x7)).lt;obtain ⟨m0,m1,m2,-,-,-⟩:=aC G5.o (((((((Ext.refl _).drew).trans x3).trans x4).trans x5).trans x6).trans x7);obtain ⟨l0,l1,l2,-,-,-⟩:=aC G6.o (((((((Ext.refl _).drew).trans x3).trans x4).trans x5).trans x6).trans x7))
   |(go_at_call 213;have _t:=tk8;refine (HD.o _ (x0.trans (((((hx.drew.trans x3).trans x4).trans x5).trans x6).trans x7))).mono ?_;rintro e w8 ⟨a8,c8,rfl,r8,f8,x8⟩;clear tk8 _t;obtain ⟨aK,bf,dE,bN,bO,fG⟩:=aC A0 ((((((hx.drew.trans x3).trans x4).trans x5).trans x6).trans x7).trans x8);have z0:=(A0.ext ((((((hx.drew.trans x3).trans x4).trans x5).trans x6).trans x7).trans x8)).lt;obtain ⟨aT,bH,eV,cM,cN,iX⟩:=aC A1 ((((((hx.drew.trans x3).trans x4).trans x5).trans x6).trans x7).trans x8);have z1:=(A1.ext ((((((hx.drew.trans x3).trans x4).trans x5).trans x6).trans x7).trans x8)).lt;obtain ⟨bD,bY,fj,cQ,cR,fV⟩:=aC A2 ((((((hx.drew.trans x3).trans x4).trans x5).trans x6).trans x7).trans x8);have z2:=(A2.ext ((((((hx.drew.trans x3).trans x4).trans x5).trans x6).trans x7).trans x8)).lt;obtain ⟨m0,m1,m2,-,-,-⟩:=aC G5.o ((((((((Ext.refl _).drew).trans x3).trans x4).trans x5).trans x6).trans x7).trans x8);obtain ⟨l0,l1,l2,-,-,-⟩:=aC G6.o ((((((((Ext.refl _).drew).trans x3).trans x4).trans x5).trans x6).trans x7).trans x8))
   |(go_at_call 213;refine (HD'.o _ (x0.trans ((((((hx.drew.trans x3).trans x4).trans x5).trans x6).trans x7).trans x8))).mono ?_;rintro e w9 ⟨a9,c9,rfl,r9,f9,x9⟩;obtain ⟨aK,bf,dE,bN,bO,fG⟩:=aC A0 (((((((hx.drew.trans x3).trans x4).trans x5).trans x6).trans x7).trans x8).trans x9);have z0:=(A0.ext (((((((hx.drew.trans x3).trans x4).trans x5).trans x6).trans x7).trans x8).trans x9)).lt;obtain ⟨aT,bH,eV,cM,cN,iX⟩:=aC A1 (((((((hx.drew.trans x3).trans x4).trans x5).trans x6).trans x7).trans x8).trans x9);have z1:=(A1.ext (((((((hx.drew.trans x3).trans x4).trans x5).trans x6).trans x7).trans x8).trans x9)).lt;obtain ⟨bD,bY,fj,cQ,cR,fV⟩:=aC A2 (((((((hx.drew.trans x3).trans x4).trans x5).trans x6).trans x7).trans x8).trans x9);have z2:=(A2.ext (((((((hx.drew.trans x3).trans x4).trans x5).trans x6).trans x7).trans x8).trans x9)).lt;obtain ⟨m0,m1,m2,-,-,-⟩:=aC G5.o (((((((((Ext.refl _).drew).trans x3).trans x4).trans x5).trans x6).trans x7).trans x8).trans x9);obtain ⟨l0,l1,l2,-,-,-⟩:=aC G6.o (((((((((Ext.refl _).drew).trans x3).trans x4).trans x5).trans x6).trans x7).trans x8).trans x9))
   |(go_at_call 212;refine (HZ.o _ _ _ _ _ (r8.ext x9) r9).mono ?_;rintro e Ew ⟨Kv,c10,rfl,S2,f10,zZ⟩;obtain ⟨aK,bf,dE,bN,bO,fG⟩:=aC A0 ((((((((hx.drew.trans x3).trans x4).trans x5).trans x6).trans x7).trans x8).trans x9).trans zZ);have z0:=(A0.ext ((((((((hx.drew.trans x3).trans x4).trans x5).trans x6).trans x7).trans x8).trans x9).trans zZ)).lt;obtain ⟨aT,bH,eV,cM,cN,iX⟩:=aC A1 ((((((((hx.drew.trans x3).trans x4).trans x5).trans x6).trans x7).trans x8).trans x9).trans zZ);have z1:=(A1.ext ((((((((hx.drew.trans x3).trans x4).trans x5).trans x6).trans x7).trans x8).trans x9).trans zZ)).lt;obtain ⟨bD,bY,fj,cQ,cR,fV⟩:=aC A2 ((((((((hx.drew.trans x3).trans x4).trans x5).trans x6).trans x7).trans x8).trans x9).trans zZ);have z2:=(A2.ext ((((((((hx.drew.trans x3).trans x4).trans x5).trans x6).trans x7).trans x8).trans x9).trans zZ)).lt;obtain ⟨m0,m1,m2,-,-,-⟩:=aC G5.o ((((((((((Ext.refl _).drew).trans x3).trans x4).trans x5).trans x6).trans x7).trans x8).trans x9).trans zZ);obtain ⟨l0,l1,l2,-,-,-⟩:=aC G6.o ((((((((((Ext.refl _).drew).trans x3).trans x4).trans x5).trans x6).trans x7).trans x8).trans x9).trans zZ))
   |(go_at_call 117;refine (HM.o _ _ _ _ _ (((r7.ext x8).ext x9).ext zZ) S2).mono ?_;intro e OI na;obtain ⟨a11,c11,V0,d11,rfl,r11,f11,q11,g11,EA⟩:=id na;obtain ⟨aK,bf,dE,bN,bO,fG⟩:=aC A0 (((((((((hx.drew.trans x3).trans x4).trans x5).trans x6).trans x7).trans x8).trans x9).trans zZ).trans EA);have z0:=(A0.ext (((((((((hx.drew.trans x3).trans x4).trans x5).trans x6).trans x7).trans x8).trans x9).trans zZ).trans EA)).lt;obtain ⟨aT,bH,eV,cM,cN,iX⟩:=aC A1 (((((((((hx.drew.trans x3).trans x4).trans x5).trans x6).trans x7).trans x8).trans x9).trans zZ).trans EA);have z1:=(A1.ext (((((((((hx.drew.trans x3).trans x4).trans x5).trans x6).trans x7).trans x8).trans x9).trans zZ).trans EA)).lt;obtain ⟨bD,bY,fj,cQ,cR,fV⟩:=aC A2 (((((((((hx.drew.trans x3).trans x4).trans x5).trans x6).trans x7).trans x8).trans x9).trans zZ).trans EA);have z2:=(A2.ext (((((((((hx.drew.trans x3).trans x4).trans x5).trans x6).trans x7).trans x8).trans x9).trans zZ).trans EA)).lt;obtain ⟨m0,m1,m2,-,-,-⟩:=aC G5.o (((((((((((Ext.refl _).drew).trans x3).trans x4).trans x5).trans x6).trans x7).trans x8).trans x9).trans zZ).trans EA);obtain ⟨l0,l1,l2,-,-,-⟩:=aC G6.o (((((((((((Ext.refl _).drew).trans x3).trans x4).trans x5).trans x6).trans x7).trans x8).trans x9).trans zZ).trans EA)))
  go_wp2_with fail
  exact bodyPost_ret (by simp [results,results179,go_sem,bD,bY,fj]) rfl (dY.OH (na.base (((((((x3.trans x4).trans x5).trans x6).trans x7).trans x8).trans x9).trans zZ)) x0 hx.drew (Touch.three _ (by omega) (by rw [Z0.o];omega) _ _ _))
theorem B0 (V:World) (s1 t:Bool) (n1 n2:Nat) (R:Rat) (hR:mkRat (bA (s1 !=t) n1) n2=R) (b1:len n1<900000000) (b2:len n2<900000000) (a:Option Addr) (c:Nat) (b:Option Addr) (d:Nat) (h:Raw V a (len n1) c n1) (h':Raw V b (len n2) d n2):
 Calls prog 117 #[.agg #[.bool s1,.slice a (len n1) c],.agg #[.bool t,.slice b (len n2) d]] V (dY (decide (R.num<0)) R.num.natAbs R.den V):=by
 have:=zD V s1 t a b _ c _ d n1 n2 h h' b1 b2;rw [hR]at this;exact this
theorem rS (V:World) (s1 t:Bool) (n1 n2:Nat) (z:Int) (hz:bA s1 n1*bA t n2=z) (b1:len n1<1000000000) (b2:len n2<1000000000) (a:Option Addr) (c:Nat) (b:Option Addr) (d:Nat) (h:Raw V a (len n1) c n1) (h':Raw V b (len n2) d n2):
 Calls prog 212 #[.agg #[.bool s1,.slice a (len n1) c],.agg #[.bool t,.slice b (len n2) d]] V (gh (decide (z<0)) z.natAbs V):=by
 have:=Ox V s1 t a b _ c _ d n1 n2 h h' b1 b2;rw [hz]at this;exact this
theorem Gh (V:World) (s1 t:Bool) (n1 n2:Nat) (z:Int) (hz:bA s1 n1+bA t n2=z) (b1:len n1<1000000000) (b2:len n2<1000000000) (a:Option Addr) (c:Nat) (b:Option Addr) (d:Nat) (h:Raw V a (len n1) c n1) (h':Raw V b (len n2) d n2):
 Calls prog 208 #[.agg #[.bool s1,.slice a (len n1) c],.agg #[.bool t,.slice b (len n2) d]] V (gh (decide (z<0)) z.natAbs V):=by
 have:=zy V s1 t a b _ c _ d n1 n2 h h' b1 b2;rw [hz]at this;exact this
theorem qz (s:Bool) (n m:Nat) {k j:Nat} (h1:len n≤k) (h2:len m≤j) (b1:k<200000000) (b2:j<200000000):len (mkRat (bA s n) m).num.natAbs<200000000∧len (mkRat (bA s n) m).den<200000000:=by
 have h:=kV (bA s n) m;rw [cd]at h;have h3:=lN (mkRat (bA s n) m);have h4:=lO (mkRat (bA s n) m);omega
theorem OJ (w:World) (s:Bool) (a b:Option Addr) (k c j d n m:Nat) (h:Raw w a k c n) (g:Raw w b j d m) (b1:k<200000000) (b2:j<200000000):Calls prog 180 #[.agg #[.bool s,.slice a k c,.slice b j d]] w (bn (-(mkRat (bA s n) m)) w):=by
 obtain ⟨l1,l2⟩:=qz s n m h.cj g.cj b1 b2;have hN:=fun V (hV:Ext w V)=>(qy V s a b k c j d n m (h.ext hV) (g.ext hV) b1 b2).mono (fun _ _ hh=>hh.vv);have hD:=fun V (hV:Ext w V)=>DI V s a b k c j d n m (h.ext hV) (g.ext hV) b1 b2;generalize mkRat (bA s n) m=P at*;refine (BU w s a b k c j d _ (decide (-P.num<0)) _ _ _ (-P.num).natAbs _ _ hN hD ?_ (fun V a c b d h1 h2=>B0 V _ _ _ _ (-P) ?_ ?_ ?_ a c b d h1 h2)).mono (fun _ _ hh=>hh.zm)
 ·intro V a c hR
  have:=zu V (decide (P.num<0)) a _ c _ hR;rw [eH]at this;exact this
 ·rw [Bool.bne_false,eH,←Rat.neg_mkRat,Rat.mkRat_self]
 ·rw [Int.natAbs_neg];omega
 ·omega
theorem vx {x y:Nat} (h1:len x<200000000) (h2:len y<200000000):len (x*y)<400000000:=by
 have:=ud x y;omega
theorem OL (w:World) (s:Bool) (a b:Option Addr) (k c j d n m:Nat) (h:Raw w a k c n) (g:Raw w b j d m) (s':Bool) (a' b':Option Addr) (k' c' j' d' n' m':Nat) (h':Raw w a' k' c' n') (g':Raw w b' j' d' m') (b1:k<200000000) (b2:j<200000000) (Jf:k'<200000000) (Mg:j'<200000000):Calls prog 179 #[.agg #[.bool s,.slice a k c,.slice b j d],.agg #[.bool s',.slice a' k' c',.slice b' j' d']] w (bn (mkRat (bA s n) m+mkRat (bA s' n') m') w):=by
 obtain ⟨l1,l2⟩:=qz s n m h.cj g.cj b1 b2;obtain ⟨l3,l4⟩:=qz s' n' m' h'.cj g'.cj Jf Mg;have hN:=fun V (hV:Ext w V)=>(qy V s a b k c j d n m (h.ext hV) (g.ext hV) b1 b2).mono (fun _ _ hh=>hh.vv);have hD:=fun V (hV:Ext w V)=>DI V s a b k c j d n m (h.ext hV) (g.ext hV) b1 b2;have U9:=fun V (hV:Ext w V)=>(qy V s' a' b' k' c' j' d' n' m' (h'.ext hV) (g'.ext hV) Jf Mg).mono (fun _ _ hh=>hh.vv);have U_:=fun V (hV:Ext w V)=>DI V s' a' b' k' c' j' d' n' m' (h'.ext hV) (g'.ext hV) Jf Mg;generalize mkRat (bA s n) m=P at*;generalize mkRat (bA s' n') m'=Q at*;have e2:decide ((P.den:Int)*(Q.den:Int)<0)=false:=decide_eq_false (by rw [←Int.natCast_mul];omega);have e3:((P.den:Int)*(Q.den:Int)).natAbs=P.den*Q.den:=by rw [←Int.natCast_mul,Int.natAbs_natCast]
 have f1:len (P.num*(Q.den:Int)).natAbs<400000000:=by rw [Int.natAbs_mul,Int.natAbs_natCast];exact vx l1 l4
 have f2:len (Q.num*(P.den:Int)).natAbs<400000000:=by rw [Int.natAbs_mul,Int.natAbs_natCast];exact vx l3 l2
 refine (BZ w s a b k c j d s' a' b' k' c' j' d' _ _ _ _ _ _ _ _ _ _ _ _ _ _ _ _ _ hN U9 hD U_ (fun V a c b d h1 h2=>rS V _ _ _ _ (P.num*(Q.den:Int)) ?_ ?_ ?_ a c b d h1 h2) (fun V a c b d h1 h2=>rS V _ _ _ _ (Q.num*(P.den:Int)) ?_ ?_ ?_ a c b d h1 h2) (fun V a c b d h1 h2=>Gh V _ _ _ _ (P.num*(Q.den:Int)+Q.num*(P.den:Int)) ?_ ?_ ?_ a c b d h1 h2) (fun V a c b d h1 h2=>rS V _ _ _ _ ((P.den:Int)*(Q.den:Int)) ?_ ?_ ?_ a c b d h1 h2) (fun V a c b d h1 h2=>B0 V _ _ _ _ (P+Q) ?_ ?_ ?_ a c b d h1 h2)).mono (fun _ _ hh=>hh.zm)
 ·rw [eH,eX]
 ·omega
 ·omega
 ·rw [eH,eX]
 ·omega
 ·omega
 ·rw [eH,eH]
 ·omega
 ·omega
 ·rw [eX,eX]
 ·omega
 ·omega
 ·rw [e2,Bool.bne_false,eH,e3,Rat.add_def']
 ·have:=vp (P.num*(Q.den:Int)) (Q.num*(P.den:Int));omega
 ·rw [e3];have:=vx l2 l4;omega
theorem B4 (w:World) (s:Bool) (a b:Option Addr) (k c j d:Nat) (s':Bool) (a' b':Option Addr) (k' c' j' d':Nat) (s1 sR:Bool) (n1 m1 nR dR:Nat) (hN: ∀V,Ext w V→Calls prog 180 #[.agg #[.bool s',.slice a' k' c',.slice b' j' d']] V (dY s1 n1 m1 V)) (hA: ∀V a1 c1 b1 d1,Ext w V→Raw V a1 (len n1) c1 n1→Raw V b1 (len m1) d1 m1→Calls prog 179 #[.agg #[.bool s,.slice a k c,.slice b j d],.agg #[.bool s1,.slice a1 (len n1) c1,.slice b1 (len m1) d1]] V (dY sR nR dR V)):
 Calls prog 130 #[.agg #[.bool s,.slice a k c,.slice b j d],.agg #[.bool s',.slice a' k' c',.slice b' j' d']] w (dY sR nR dR w):=by
 have HN:=ae hN;have HA:=ae hA;clear hN hA
 have U8:=Tryz.rat_num;have U7:=Tryz.rat_den;go_enter func130,ntmps130
 go_wp2_with fail
 obtain ⟨W,hW,x0,Z0,A0,A1,A2⟩:=eT w 119 [.bool s,.slice a k c,.slice b j d] 119 [.bool s',.slice a' k' c',.slice b' j' d'] 119 [.bool false,.slice none 0 0,.slice none 0 0];rw [←hW];clear hW;obtain ⟨aK,bf,dE,bN,bO,fG⟩:=aC A0 (Ext.refl _);have z0:=(A0.ext (Ext.refl _)).lt;obtain ⟨aT,bH,eV,cM,cN,iX⟩:=aC A1 (Ext.refl _);have z1:=(A1.ext (Ext.refl _)).lt;obtain ⟨bD,bY,fj,cQ,cR,fV⟩:=aC A2 (Ext.refl _);have z2:=(A2.ext (Ext.refl _)).lt
 go_region_held3 (fun w'=>w'.cell? ⟨w.heap.size,0,none⟩=some (.bool s)∧w'.cell? ⟨w.heap.size,1,none⟩=some (.slice a k c)∧w'.cell? ⟨w.heap.size,2,none⟩=some (.slice b j d)∧w'.cell? ⟨w.heap.size+1,0,none⟩=some (.bool s')∧w'.cell? ⟨w.heap.size+1,1,none⟩=some (.slice a' k' c')∧w'.cell? ⟨w.heap.size+1,2,none⟩=some (.slice b' j' d')) (first|exact ⟨aK,bf,dE,aT,bH,eV⟩|(simp [go_sem,aK,bf,dE,aT,bH,eV])) (first
  |(go_at_call 180;refine (HN.o _ (by exact x0.trans ((Ext.refl _).drew))).mono ?_;rintro e w1 ⟨a1,c1,b1,d1,rfl,r1,f1,q1,g1,x1⟩;obtain ⟨aK,bf,dE,bN,bO,fG⟩:=aC A0 (((Ext.refl _).drew).trans x1);have z0:=(A0.ext (((Ext.refl _).drew).trans x1)).lt;obtain ⟨aT,bH,eV,cM,cN,iX⟩:=aC A1 (((Ext.refl _).drew).trans x1);have z1:=(A1.ext (((Ext.refl _).drew).trans x1)).lt;obtain ⟨bD,bY,fj,cQ,cR,fV⟩:=aC A2 (((Ext.refl _).drew).trans x1);have z2:=(A2.ext (((Ext.refl _).drew).trans x1)).lt)
  |(go_at_call 179;refine (HA.o _ _ _ _ _ (by exact x0.trans (((Ext.refl _).drew).trans x1)) r1 q1).mono ?_;intro e w2 na;obtain ⟨a2,c2,b2,d2,rfl,r2,f2,q2,g2,x2⟩:=id na;obtain ⟨aK,bf,dE,bN,bO,fG⟩:=aC A0 ((((Ext.refl _).drew).trans x1).trans x2);have z0:=(A0.ext ((((Ext.refl _).drew).trans x1).trans x2)).lt;obtain ⟨aT,bH,eV,cM,cN,iX⟩:=aC A1 ((((Ext.refl _).drew).trans x1).trans x2);have z1:=(A1.ext ((((Ext.refl _).drew).trans x1).trans x2)).lt;obtain ⟨bD,bY,fj,cQ,cR,fV⟩:=aC A2 ((((Ext.refl _).drew).trans x1).trans x2);have z2:=(A2.ext ((((Ext.refl _).drew).trans x1).trans x2)).lt))
 go_wp2_with fail
 exact bodyPost_ret (by simp [results,results130,go_sem,bD,bY,fj]) rfl (dY.bF (na.base x1) x0.drew (Touch.three _ (by omega) (by rw [World.drew,Z0.o];omega) _ _ _))
theorem tI (w:World) (s:Bool) (a b:Option Addr) (k c j d:Nat) (s':Bool) (a' b':Option Addr) (k' c' j' d':Nat) (s1:Bool) (n1 m1:Nat) (z:Int) (hN: ∀V,Ext w V→Calls prog 130 #[.agg #[.bool s,.slice a k c,.slice b j d],.agg #[.bool s',.slice a' k' c',.slice b' j' d']] V (dY s1 n1 m1 V)) (hA: ∀V a1 c1 b1 d1,Ext w V→Raw V a1 (len n1) c1 n1→Raw V b1 (len m1) d1 m1→Calls prog 74 #[.agg #[.bool s1,.slice a1 (len n1) c1,.slice b1 (len m1) d1]] V fun e w'=>e= .returned (.int .i64 z)∧Ext V w'):
 Calls prog 75 #[.agg #[.bool s,.slice a k c,.slice b j d],.agg #[.bool s',.slice a' k' c',.slice b' j' d']] w (fun e w'=>e= .returned (.int .i64 z)∧Ext w w'):=by
 have HN:=ae hN;have HA:=ae hA;clear hN hA
 have U8:=Tryz.rat_num;have U7:=Tryz.rat_den;go_enter func75,ntmps75
 go_wp2_with fail
 obtain ⟨W,hW,x0,Z0,A0,A1⟩:=fu w 119 [.bool s,.slice a k c,.slice b j d] 119 [.bool s',.slice a' k' c',.slice b' j' d'];rw [←hW];clear hW;have aK:=aC A0 (Ext.refl _);have z0:=(A0.ext (Ext.refl _)).lt;have aT:=aC A1 (Ext.refl _);have z1:=(A1.ext (Ext.refl _)).lt;refine (HN.o _ x0).mono ?_;rintro e w1 ⟨a1,c1,b1,d1,rfl,r1,f1,q1,g1,x1⟩;go_wp2_with fail
 refine (HA.o _ _ _ _ _ (x0.trans x1) r1 q1).mono ?_;rintro e w2 ⟨rfl,x2⟩;go_wp2_with fail
 go_ret;exact ⟨rfl,(x0.trans x1).trans x2⟩
theorem Jg (p q:Rat):(p-q).num.sign=i6 p q:=by
 rcases my p q with h|h|h
 ·have h1:p<q:=ue.1 (by omega)
  have h2:p-q<0:=by
   rw [Rat.lt_iff_sub_pos]at h1⊢;have e:0-(p-q)=q-p:=by grind
   rw [e];exact h1
  have h3:(p-q).num<0:=by
   apply Int.lt_of_not_ge;intro h4;exact absurd (Rat.num_nonneg.1 h4) (Rat.not_le.2 h2)
  rw [h,Int.sign_eq_neg_one_of_neg h3]
 ·have h1:p=q:=n9.1 h
  rw [h,h1,Rat.sub_self];rfl
 ·have h1:q<p:=zj.1 (by omega)
  rw [Rat.lt_iff_sub_pos]at h1
  have h3:0<(p-q).num:=by
   have h4:0≤(p-q).num:=Rat.num_nonneg.2 (Rat.le_of_lt h1)
   have h5:(p-q).num≠0:=fun e=>by
    rw [Rat.num_eq_zero.1 e]at h1;exact absurd h1 (Rat.lt_irrefl)
   omega
  rw [h,Int.sign_eq_one_of_pos h3]
theorem OM (w:World) (s:Bool) (a b:Option Addr) (k c j d n m:Nat) (h:Raw w a k c n) (g:Raw w b j d m) (s':Bool) (a' b':Option Addr) (k' c' j' d' n' m':Nat) (h':Raw w a' k' c' n') (g':Raw w b' j' d' m') (b1:k<200000000) (b2:j<200000000) (Jf:k'<200000000) (Mg:j'<200000000):Calls prog 130 #[.agg #[.bool s,.slice a k c,.slice b j d],.agg #[.bool s',.slice a' k' c',.slice b' j' d']] w (bn (mkRat (bA s n) m-mkRat (bA s' n') m') w):=by
 obtain ⟨l3,l4⟩:=qz s' n' m' h'.cj g'.cj Jf Mg;have hN:=fun V (hV:Ext w V)=>(OJ V s' a' b' k' c' j' d' n' m' (h'.ext hV) (g'.ext hV) Jf Mg).mono (fun _ _ hh=>hh.vv);generalize mkRat (bA s' n') m'=Q at*;refine (B4 w s a b k c j d s' a' b' k' c' j' d' _ _ _ _ _ _ hN ?_).mono (fun _ _ hh=>hh.zm);intro V a1 c1 Jf d1 hV hR S3;have:=OL V s a b k c j d n m (h.ext hV) (g.ext hV) (decide ((-Q).num<0)) a1 Jf _ c1 _ d1 _ _ hR S3 b1 b2 (by rw [Rat.neg_num,Int.natAbs_neg];omega) (by rw [Rat.neg_den];omega);rw [eH,Rat.mkRat_self,←Rat.sub_eq_add_neg]at this;exact this
theorem DM (w:World) (s:Bool) (a b:Option Addr) (k c j d n m:Nat) (h:Raw w a k c n) (g:Raw w b j d m) (s':Bool) (a' b':Option Addr) (k' c' j' d' n' m':Nat) (h':Raw w a' k' c' n') (g':Raw w b' j' d' m') (b1:k<60000000) (b2:j<60000000) (Jf:k'<60000000) (Mg:j'<60000000):Calls prog 75 #[.agg #[.bool s,.slice a k c,.slice b j d],.agg #[.bool s',.slice a' k' c',.slice b' j' d']] w fun e w'=>e= .returned (.int .i64 (i6 (mkRat (bA s n) m) (mkRat (bA s' n') m')))∧Ext w w':=by
 have hN:=fun V (hV:Ext w V)=>(OM V s a b k c j d n m (h.ext hV) (g.ext hV) s' a' b' k' c' j' d' n' m' (h'.ext hV) (g'.ext hV) (by omega) (by omega) (by omega) (by omega)).mono (fun _ _ hh=>hh.vv)
 have hl:oB (mkRat (bA s n) m-mkRat (bA s' n') m')<150000000:=by
  have h1:=kV (bA s n) m;have h2:=kV (bA s' n') m';rw [cd]at h1 h2;have h3:=Lu (mkRat (bA s n) m) (mkRat (bA s' n') m');have h4:=h.cj;have h5:=g.cj;have h6:=h'.cj;have h7:=g'.cj;omega
 rw [←Jg];generalize mkRat (bA s n) m-mkRat (bA s' n') m'=D at*;have Kf:=lN D;have hl2:=lO D;refine tI w s a b k c j d s' a' b' k' c' j' d' _ _ _ _ hN ?_;intro V a1 c1 Jf d1 hV hR S3;have:=ES V (decide (D.num<0)) a1 Jf _ c1 _ d1 _ _ hR S3 (by omega) (by omega);rw [eH,Rat.mkRat_self]at this;exact this
theorem B6 {w:World} {b:Nat} {T:TypeId} {l:List Int} (h:aJ w b T (lQ l)):qQ w (some ⟨b,0,none⟩) l:=
 ⟨b,0,rfl,fun i hi=>by rw [h.cell,Nat.zero_add];exact uk l i hi⟩
def OO (r:ct) (row:Option Nat):Prop:=(0<r.k→ ∀x,r.a=some x→some x.block≠row)∧(0<r.j→ ∀x,r.b=some x→some x.block≠row)
structure gU (w wr:World) (v:Value) (rs:List ct) (qs:List Rat) (L:Nat):Prop where
 len:qs.length=rs.length
 own:wr.ownsRow w.heap.size 119 3 v rs.length (dL rs)
 num: ∀k (hk:k<rs.length),gW wr rs[k] (qs[k]'(by omega)) L
 off: ∀k (hk:k<rs.length),OO rs[k] v.ownBlock
 ext:Ext w wr
theorem gU.start {w wr:World} (h:Ext w wr) (L:Nat):gU w wr (.slice none 0 0) [] [] L:=
 ⟨rfl,⟨rfl,.inl ⟨rfl,rfl⟩⟩,fun _k hk=>absurd hk (Nat.not_lt_zero _),fun _k hk=>absurd hk (Nat.not_lt_zero _),h⟩
open Go.ChangeShapes Go.WideShapes Go.ChangeAt
theorem Tryz.own:ownKnob Tryz.prog.godebug=none:=by kernel_rfl
theorem yg (n:Nat) (hn:n≤128) (w:World):(Instr.makeSlice 22 (.int .i64 (n:Int)) (.int .i64 (n:Int))).run prog w= .ok (.slice (some ⟨w.heap.size,0,none⟩) n n) (w.alloc (.cells (List.replicate n (Value.int .i64 0)).toArray 3)):=by
 obtain ⟨i,h2,h4,h5,h6⟩:=info_parts Tryz.info_int;have hrun:=run_make (P:=prog) w 22 3 i _ underlying22 h2 h4 .i64 .i64 n n (by omega) (Int.le_refl _) (by rw [h6];omega) (by omega);simp only [Int.toNat_natCast,h5,Nat.mul_one,show(Value.int IntKind.i64 0).cells= #[Value.int IntKind.i64 0]from rfl,oA]at hrun;exact hrun
open Go.Deep
def ML (w:World) (a:Option Addr) (k c:Nat):Prop:=k≤c∧c≤9223372036854775807∧(k≤1000→ ∃n,Raw w a k c n)
structure Jh (w:World) (a:Option Addr) (c:Nat) (rs:List ct):Prop where
 le:rs.length≤c
 cap:c≤9223372036854775807
 GJ:a=none→c=0
 cell: ∀i (h:i<rs.length),∃b o,a=some ⟨b,o,none⟩∧w.cell? ⟨b,o+i*3,none⟩=some (.bool rs[i].s)∧w.cell? ⟨b,o+i*3+1,none⟩=some (.slice rs[i].a rs[i].k rs[i].c)∧w.cell? ⟨b,o+i*3+2,none⟩=some (.slice rs[i].b rs[i].j rs[i].d)
 num: ∀i (h:i<rs.length),ML w rs[i].a rs[i].k rs[i].c∧ML w rs[i].b rs[i].j rs[i].d
theorem Jh.at {w:World} {a:Option Addr} {c:Nat} {rs:List ct} (h:Jh w a c rs) (h0:0<rs.length): ∃b o,a=some ⟨b,o,none⟩:=by
 obtain ⟨b,o,ha,_⟩:=h.cell 0 h0;exact ⟨b,o,ha⟩
theorem zF {w:World} {base base':Nat} {e:TypeId} {s:Nat} {v:Value} {n:Nat} {xs:List Value} (h:w.ownsRow base e s v n xs) (hb:base'≤base):w.ownsRow base' e s v n xs:=by
 obtain ⟨h1,h2⟩:=h;refine ⟨h1,?_⟩;rcases h2 with h2|⟨g,cap,cur,hv,hb',hg,hr⟩
 ·exact .inl h2
 ·exact .inr ⟨g,cap,cur,hv,Nat.le_trans hb hb',hg,hr⟩
theorem gU.base {w w4 wr:World} {v:Value} {rs:List ct} {qs:List Rat} {L:Nat} (h:gU w4 wr v rs qs L) (hx:Ext w w4):gU w wr v rs qs L:=
 ⟨h.len,zF h.own hx.size,h.num,h.off,hx.trans h.ext⟩
theorem gU.mono {w wr:World} {v:Value} {rs:List ct} {qs:List Rat} {L L':Nat} (h:gU w wr v rs qs L) (hl:L≤L'):gU w wr v rs qs L':=
 ⟨h.len,h.own,fun k hk=>(h.num k hk).mono hl,h.off,h.ext⟩
theorem j3.mono {rs:List ct} {L L':Nat} (h:j3 rs L) (hl:L≤L'):j3 rs L':=fun k hk=>by have:=h k hk;omega
theorem og.src {w:World} {a:Option Addr} {c:Nat} {rs:List ct} {qs:List Rat} {L:Nat} (h:og w a c rs qs L) (h0:0<rs.length): ∃ad,a=some ad∧ ∀j u,(dL rs)[j]?=some u→w.cell? (ad.add j)=some u:=by
 obtain ⟨b,o,rfl⟩:=h.at h0;refine ⟨_,rfl,fun j u hu=> ?_⟩;have hj:j<(dL rs).length:=(List.getElem?_eq_some_iff.1 hu).1;rw [mP]at hj;have hi:j/3<rs.length:=by omega
 have hk:j % 3<3:=by omega
 have hg:=zn rs (j/3) (j % 3) hi hk;rw [show j/3*3+j % 3=j by omega,hu]at hg;obtain ⟨b',o',e',c0,c1,c2⟩:=h.cell (j/3) hi;cases e'
 rw [show(Addr.add ⟨b,o,none⟩ j)=⟨b,o+j,none⟩from by unfold Addr.add;split<;>simp_all];rcases (show j % 3=0∨j % 3=1∨j % 3=2 by omega)with e|e|e
 ·rw [e]at hg;rw [show o+j=o+j/3*3 by omega,c0];simpa [ct.cells]using hg.symm
 ·rw [e]at hg;rw [show o+j=o+j/3*3+1 by omega,c1];simpa [ct.cells]using hg.symm
 ·rw [e]at hg;rw [show o+j=o+j/3*3+2 by omega,c2];simpa [ct.cells]using hg.symm
open Go
open Go.Maps Go.ChangeMaps Go.MapKept
end Go.Proofs.YtkpngkdgphojlaaGreat
