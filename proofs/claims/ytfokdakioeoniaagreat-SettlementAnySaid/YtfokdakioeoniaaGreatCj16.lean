/- Texts of the proof. -/
import Derived.Test.YtfokdakioeoniaaGreatCj15
set_option linter.all false
set_option maxHeartbeats 20000000
set_option maxRecDepth 100000
namespace Go.Proofs.YtfokdakioeoniaaGreat
open Go.Proofs.Tryz
open Go.RowKit
theorem Cg {w:World} {b:Nat} {p:Addr} {x v0 v1 v2:Value} (h:w.cell? p=some x) (hb:p.block≠b):(((w.setCell ⟨b,0,none⟩ v0).setCell ⟨b,1,none⟩ v1).setCell ⟨b,2,none⟩ v2).cell? p=some x:=by
 rw [World.cell?_setCell_other _ _ _ _ (by intro e;exact hb (by rw [<-e])),World.cell?_setCell_other _ _ _ _ (by intro e;exact hb (by rw [<-e])),World.cell?_setCell_other _ _ _ _ (by intro e;exact hb (by rw [<-e])),h]
theorem xg {w:World} {o:Obj} {p:Addr} {x:Value} (h:w.cell? p=some x):(w.alloc o).cell? p=some x:=aB (ah.alloc _) h
theorem ub {w:World} {p:Addr} {x:Value} (h:w.cell? p=some x):w.drew.cell? p=some x:=h
theorem Raw.alloc' {w:World} {a:Option Addr} {k c n:Nat} (h:Raw w a k c n) (o:Obj):Raw (w.alloc o) a k c n:=h.ext (ah.alloc _)
theorem aY.alloc' {w:World} {b:Nat} {T:TypeId} {vs:List Value} (h:aY w b T vs) (o:Obj):aY (w.alloc o) b T vs:=h.ext (ah.alloc _)
theorem aY.qV (w:World) (o:Obj) (T:TypeId) (vs:List Value):aY ((w.alloc o).alloc (.cells vs.toArray T)) (w.heap.size+1) T vs:=by
 have h:=aY.alloc (w.alloc o) T vs;rw [show(w.alloc o).heap.size=w.heap.size+1 from by simp]at h;exact h
theorem aY.alloc_at {w:World} {b:Nat} (T:TypeId) (vs:List Value) (_:Unit) (h:w.heap.size=b):aY (w.alloc (.cells vs.toArray T)) b T vs:=h▸aY.alloc w T vs
theorem aY.tT {w:World} {b:Nat} {T:TypeId} {x y z:Value} (h:aY w b T [x,y,z]) (u v t:Value):aY (((w.setCell ⟨b,0,none⟩ u).setCell ⟨b,1,none⟩ v).setCell ⟨b,2,none⟩ t) b T [u,v,t]:=((h.set 0 u).set 1 v).set 2 t
theorem aY.IH {w:World} {b b':Nat} {T:TypeId} {vs:List Value} (h:aY w b T vs) (u v t:Value) (hb:b'≠b):aY (((w.setCell ⟨b',0,none⟩ u).setCell ⟨b',1,none⟩ v).setCell ⟨b',2,none⟩ t) b T vs:=((h.other _ _ hb).other _ _ hb).other _ _ hb
theorem FD (w:World) (s:Bool) (a b:Option Addr) (k c j d:Nat) (s':Bool) (a' b':Option Addr) (k' c' j' d':Nat) (sP sQ s1 s2 s3 s4 sR:Bool) (nP dP nQ dQ n1 n2 n3 n4 nR dR:Nat) (hN: ∀V,Ext w V->Calls prog 51 #[.agg #[.bool s,.slice a k c,.slice b j d]] V (dG sP nP dP V)) (Ki: ∀V,Ext w V->Calls prog 51 #[.agg #[.bool s',.slice a' k' c',.slice b' j' d']] V (dG sQ nQ dQ V)) (hD: ∀V,Ext w V->Calls prog 130 #[.agg #[.bool s,.slice a k c,.slice b j d]] V (eJ false dP V)) (E9: ∀V,Ext w V->Calls prog 130 #[.agg #[.bool s',.slice a' k' c',.slice b' j' d']] V (eJ false dQ V)) (hX: ∀V a c b d,Raw V a (len nP) c nP->Raw V b (len dQ) d dQ->Calls prog 132 #[.agg #[.bool sP,.slice a (len nP) c],.agg #[.bool false,.slice b (len dQ) d]] V (eJ s1 n1 V)) (hY: ∀V a c b d,Raw V a (len nQ) c nQ->Raw V b (len dP) d dP->Calls prog 132 #[.agg #[.bool sQ,.slice a (len nQ) c],.agg #[.bool false,.slice b (len dP) d]] V (eJ s2 n2 V)) (hA: ∀V a c b d,Raw V a (len n1) c n1->Raw V b (len n2) d n2->Calls prog 131 #[.agg #[.bool s1,.slice a (len n1) c],.agg #[.bool s2,.slice b (len n2) d]] V (eJ s3 n3 V)) (hZ: ∀V a c b d,Raw V a (len dP) c dP->Raw V b (len dQ) d dQ->Calls prog 132 #[.agg #[.bool false,.slice a (len dP) c],.agg #[.bool false,.slice b (len dQ) d]] V (eJ s4 n4 V)) (hM: ∀V a c b d,Raw V a (len n3) c n3->Raw V b (len n4) d n4->Calls prog 37 #[.agg #[.bool s3,.slice a (len n3) c],.agg #[.bool s4,.slice b (len n4) d]] V (dG sR nR dR V)):
 Calls prog 57 #[.agg #[.bool s,.slice a k c,.slice b j d],.agg #[.bool s',.slice a' k' c',.slice b' j' d']] w (dG sR nR dR w):=by
 have HN:=af hN;have Uf:=af Ki;have HD:=af hD;have TY:=af E9;have HX:=af hX;have HY:=af hY;have HA:=af hA;have HZ:=af hZ;have HM:=af hM;clear hN Ki hD E9 hX hY hA hZ hM
 have SU:=Tryz.rat_num;have SS:=Tryz.rat_den;go_enter func57,ntmps57
 go_wp2_with fail
 obtain ⟨W,hW,x0,Z0,A0,A1,A2⟩:=et w 63 [.bool s,.slice a k c,.slice b j d] 63 [.bool s',.slice a' k' c',.slice b' j' d'] 63 [.bool false,.slice none 0 0,.slice none 0 0];rw [<-hW];clear hW;obtain ⟨z0,z1,z2,⟨aD,aF,bn,aM,aN,bG⟩,⟨aJ,aK,bM,aR,aS,bT⟩,aZ,a_,bW,bA,bB,cf⟩:=bb3 aA aA aA A0 A1 A2 ah;have sW0:w.heap.size<W.heap.size:=by rw [Z0.o];omega
 have sW1:w.heap.size+1<W.heap.size:=by rw [Z0.o];omega
 clear aM aN bG aR aS bT bA bB cf aZ a_ bW z2;have FB:True:=trivial;go_cut [5,6] (λs5 s6 wx=> ∃(g5 g6:Nat) (a1 b1 a2 b2:Option Addr) (c1 d1 c2 d2:Nat),s5= .pointer (some ⟨g5,0,none⟩)/\s6= .pointer (some ⟨g6,0,none⟩)/\W.heap.size<=g5/\W.heap.size<=g6/\Hid (aY wx g5 63 [.bool sP,.slice a1 (len nP) c1,.slice b1 (len dP) d1])/\Hid (aY wx g6 63 [.bool sQ,.slice a2 (len nQ) c2,.slice b2 (len dQ) d2])/\Raw wx a1 (len nP) c1 nP/\Raw wx a2 (len nQ) c2 nQ/\Ext W wx)
 case first=>
  go_region_held3 (λw'=>w'.cell? ⟨w.heap.size,0,none⟩=some (.bool s)/\w'.cell? ⟨w.heap.size,1,none⟩=some (.slice a k c)/\w'.cell? ⟨w.heap.size,2,none⟩=some (.slice b j d)/\w'.cell? ⟨w.heap.size+1,0,none⟩=some (.bool s')/\w'.cell? ⟨w.heap.size+1,1,none⟩=some (.slice a' k' c')/\w'.cell? ⟨w.heap.size+1,2,none⟩=some (.slice b' j' d')) (first|with_reducible exact ⟨aD,aF,bn,aJ,aK,bM⟩|(refine ⟨?_,?_,?_,?_,?_,?_⟩<;>(repeat(with_reducible first|exact aD|exact aF|exact bn|exact aJ|exact aK|exact bM|refine Cg ?_ (by simp only;omega)|refine xg ?_|refine ub ?_)))) (first
   |(go_at_call 51;have _t:=FB;(with_reducible refine (HN.o _ (by repeat(first|exact x0|exact ah|refine Ext.drew ?_|refine Ext.alloc ?_ _))).mono ?_);rintro e w1 ⟨a1,c1,b1,d1,rfl,r1,f1,q1,g1,x1⟩;clear FB _t;have v1:Ext W w1:=(by refine Ext.trans ?_ x1;repeat(with_reducible first|exact ah|refine Ext.drew ?_|refine Ext.alloc ?_ _));clear aD aF bn aJ aK bM;obtain ⟨aD,aF,bn,-,-,-⟩:=aA A0 v1;obtain ⟨aJ,aK,bM,-,-,-⟩:=aA A1 v1;have z0:=(A0.ext v1).lt;have z1:=(A1.ext v1).lt;(first|(have y1:Ext ((W.alloc (.cells #[.bool false,.slice none 0 0,.slice none 0 0] 63)).alloc (.cells #[.bool false,.slice none 0 0,.slice none 0 0] 63)) w1:=(by with_reducible exact Ext.trans (Ext.drew ah) x1);have RC:aY w1 (W.heap.size+1) 63 [.bool false,.slice none 0 0,.slice none 0 0]:=(aY.qV W (.cells #[.bool false,.slice none 0 0,.slice none 0 0] 63) 63 [.bool false,.slice none 0 0,.slice none 0 0]).ext y1;have RB:aY w1 W.heap.size 63 [.bool false,.slice none 0 0,.slice none 0 0]:=((aY.alloc W 63 [.bool false,.slice none 0 0,.slice none 0 0]).ext (ah.alloc (.cells #[.bool false,.slice none 0 0,.slice none 0 0] 63))).ext y1;obtain ⟨m0,m1,m2,m3,m4,m5⟩:=aA RB ah;have mz:=RB.lt;obtain ⟨l0,l1,l2,l3,l4,l5⟩:=aA RC ah;have lz:=RC.lt)|(have y1:Ext (W.alloc (.cells #[.bool false,.slice none 0 0,.slice none 0 0] 63)) w1:=(by with_reducible exact Ext.trans (Ext.drew ah) x1);have RB:aY w1 W.heap.size 63 [.bool false,.slice none 0 0,.slice none 0 0]:=(aY.alloc W 63 [.bool false,.slice none 0 0,.slice none 0 0]).ext y1;obtain ⟨m0,m1,m2,m3,m4,m5⟩:=aA RB ah;have mz:=RB.lt)|skip))
   |(go_at_call 51;(with_reducible refine (Uf.o _ (by refine x0.trans ?_;repeat(first|exact v1|refine Ext.drew ?_|refine Ext.alloc ?_ _))).mono ?_);rintro e w2 ⟨a2,c2,b2,d2,rfl,r2,f2,q2,g2,x2⟩;have v2:Ext W w2:=(by refine Ext.trans ?_ x2;repeat(with_reducible first|exact v1|refine Ext.drew ?_|refine Ext.alloc ?_ _));clear aD aF bn aJ aK bM;obtain ⟨aD,aF,bn,-,-,-⟩:=aA A0 v2;obtain ⟨aJ,aK,bM,-,-,-⟩:=aA A1 v2;have z0:=(A0.ext v2).lt;have z1:=(A1.ext v2).lt;(first|(have RB:=RB.ext (by with_reducible exact x2);have RC:=RC.ext x2;obtain ⟨m0,m1,m2,m3,m4,m5⟩:=aA RB ah;have mz:=RB.lt;obtain ⟨l0,l1,l2,l3,l4,l5⟩:=aA RC ah;have lz:=RC.lt)|(have y1:Ext (w1.alloc (.cells #[.bool false,.slice none 0 0,.slice none 0 0] 63)) w2:=(by with_reducible exact x2);have nn1:=RB.lt;have RC:aY w2 w1.heap.size 63 [.bool false,.slice none 0 0,.slice none 0 0]:=(aY.alloc w1 63 [.bool false,.slice none 0 0,.slice none 0 0]).ext y1;have RB:=RB.ext (Ext.trans (ah.alloc (.cells #[.bool false,.slice none 0 0,.slice none 0 0] 63)) y1);obtain ⟨m0,m1,m2,m3,m4,m5⟩:=aA RB ah;have mz:=RB.lt;obtain ⟨l0,l1,l2,l3,l4,l5⟩:=aA RC ah;have lz:=RC.lt)|(have RB:=RB.ext (by with_reducible exact x2);obtain ⟨m0,m1,m2,m3,m4,m5⟩:=aA RB ah;have mz:=RB.lt)|(have y1:Ext ((w1.alloc (.cells #[.bool false,.slice none 0 0,.slice none 0 0] 63)).alloc (.cells #[.bool false,.slice none 0 0,.slice none 0 0] 63)) w2:=(by with_reducible exact x2);have RC:aY w2 (w1.heap.size+1) 63 [.bool false,.slice none 0 0,.slice none 0 0]:=(aY.qV w1 (.cells #[.bool false,.slice none 0 0,.slice none 0 0] 63) 63 [.bool false,.slice none 0 0,.slice none 0 0]).ext y1;have RB:aY w2 w1.heap.size 63 [.bool false,.slice none 0 0,.slice none 0 0]:=((aY.alloc w1 63 [.bool false,.slice none 0 0,.slice none 0 0]).ext (ah.alloc (.cells #[.bool false,.slice none 0 0,.slice none 0 0] 63))).ext y1;obtain ⟨m0,m1,m2,m3,m4,m5⟩:=aA RB ah;have mz:=RB.lt;obtain ⟨l0,l1,l2,l3,l4,l5⟩:=aA RC ah;have lz:=RC.lt)|(have y1:Ext (w1.alloc (.cells #[.bool false,.slice none 0 0,.slice none 0 0] 63)) w2:=(by with_reducible exact x2);have RB:aY w2 w1.heap.size 63 [.bool false,.slice none 0 0,.slice none 0 0]:=(aY.alloc w1 63 [.bool false,.slice none 0 0,.slice none 0 0]).ext y1;obtain ⟨m0,m1,m2,m3,m4,m5⟩:=aA RB ah;have mz:=RB.lt)|skip)))
  all_goals go_wp2_with fail
  all_goals go_meet
  all_goals have SK:=x1.size
  all_goals have Xg:=x2.size
  all_goals simp at SK Xg
  all_goals refine ⟨_,_,a1,b1,a2,b2,c1,d1,c2,d2,rfl,rfl,?_,?_,?_,?_,?_,?_,?_⟩
  all_goals have y2:Ext w1 w2:=(by refine Ext.trans ?_ x2;repeat(with_reducible first|exact ah|refine Ext.drew ?_|refine Ext.alloc ?_ _))
  all_goals have p1:=r1.ext y2
  all_goals have o1:=v1.size
  all_goals have o2:=y2.size
  all_goals first
   |(with_reducible refine af ?_;(repeat(with_reducible first|exact aY.alloc _ _ _|exact aY.qV _ _ _ _|(refine aY.alloc_at _ _ () ?_;simp;done)|exact RB|exact RC|exact RB.tT _ _ _|exact RC.tT _ _ _|(refine (RB.IH _ _ _ ?_).tT _ _ _;omega)|(refine (RC.IH _ _ _ ?_).tT _ _ _;omega)|(refine aY.IH ?_ _ _ _ ?_;rotate_left;(·omega))|refine aY.alloc' ?_ _));done)
   |((repeat(with_reducible first|exact p1|refine Raw.alloc' ?_ _|(refine Raw.setCell ?_ _ _ (f1.ne ?_);rotate_left;(·first|(simp;done)|(simp only;omega)|(simp;omega)))|(refine Raw.Iu r1 ?_ _ _ ?_;rotate_left;(·first|(simp;done)|(simp only;omega)|(simp;omega)))));done)
   |((repeat(with_reducible first|exact r2|refine Raw.alloc' ?_ _|(refine Raw.setCell ?_ _ _ (f2.ne ?_);rotate_left;(·first|(simp;done)|(simp only;omega)|(simp;omega)))));done)
   |((repeat(with_reducible first|exact v2|refine Ext.alloc ?_ _|(refine Ext.setCell ?_ ?_ _;rotate_left;(·first|(simp;done)|(simp only;omega)|(simp;omega)))));done)
   |omega
 case rest=>
  obtain ⟨g5,g6,a1,b1,a2,b2,c1,d1,c2,d2,rfl,rfl,s5,s6,G5,G6,r1,r2,hx⟩:=hcut;have n5:w.heap.size+3<=g5:=dB Z0.o;have n6:w.heap.size+3<=g6:=dB Z0.o;clear aD aF bn aJ aK bM z0 z1;obtain ⟨z0,z1,z2,⟨aD,aF,bn,aM,aN,bG⟩,⟨aJ,aK,bM,aR,aS,bT⟩,aZ,a_,bW,bA,bB,cf⟩:=bb3 aA aA aA A0 A1 A2 hx;obtain ⟨m0,m1,m2,-,-,-⟩:=aA G5.o ah;obtain ⟨l0,l1,l2,-,-,-⟩:=aA G6.o ah;have SY:True:=trivial;have XL:True:=trivial;have tk5:True:=trivial;have tk6:True:=trivial;have tk8:True:=trivial;go_wp2_with fail
  go_region_held3 (λw'=>w'.cell? ⟨w.heap.size,0,none⟩=some (.bool s)/\w'.cell? ⟨w.heap.size,1,none⟩=some (.slice a k c)/\w'.cell? ⟨w.heap.size,2,none⟩=some (.slice b j d)/\w'.cell? ⟨w.heap.size+1,0,none⟩=some (.bool s')/\w'.cell? ⟨w.heap.size+1,1,none⟩=some (.slice a' k' c')/\w'.cell? ⟨w.heap.size+1,2,none⟩=some (.slice b' j' d')/\w'.cell? ⟨g5,0,none⟩=some (.bool sP)/\w'.cell? ⟨g5,1,none⟩=some (.slice a1 (len nP) c1)/\w'.cell? ⟨g6,0,none⟩=some (.bool sQ)/\w'.cell? ⟨g6,1,none⟩=some (.slice a2 (len nQ) c2)) (first|with_reducible exact ⟨aD,aF,bn,aJ,aK,bM,m0,m1,l0,l1⟩|(refine ⟨?_,?_,?_,?_,?_,?_,?_,?_,?_,?_⟩<;>(repeat(with_reducible first|exact aD|exact aF|exact bn|exact aJ|exact aK|exact bM|exact m0|exact m1|exact l0|exact l1|refine ub ?_|(refine Cg ?_ ?_;rotate_left;(·simp only;omega)))))) (first
   |(go_at_call 130;have _t:=SY;refine (TY.o _ (x0.trans hx.drew)).mono ?_;rintro e w3 ⟨a3,c3,rfl,r3,f3,x3⟩;clear SY _t;obtain ⟨z0,z1,z2,⟨aD,aF,bn,aM,aN,bG⟩,⟨aJ,aK,bM,aR,aS,bT⟩,aZ,a_,bW,bA,bB,cf⟩:=bb3 aA aA aA A0 A1 A2 (hx.drew.trans x3);obtain ⟨m0,m1,m2,-,-,-⟩:=aA G5.o ((ah.drew).trans x3);obtain ⟨l0,l1,l2,-,-,-⟩:=aA G6.o ((ah.drew).trans x3))
   |(go_at_call 132;have _t:=XL;refine (HX.o _ _ _ _ _ (r1.ext ((ah.drew).trans x3)) r3).mono ?_;rintro e w4 ⟨a4,c4,rfl,r4,f4,x4⟩;clear XL _t;obtain ⟨z0,z1,z2,⟨aD,aF,bn,aM,aN,bG⟩,⟨aJ,aK,bM,aR,aS,bT⟩,aZ,a_,bW,bA,bB,cf⟩:=bb3 aA aA aA A0 A1 A2 ((hx.drew.trans x3).trans x4);obtain ⟨m0,m1,m2,-,-,-⟩:=aA G5.o (((ah.drew).trans x3).trans x4);obtain ⟨l0,l1,l2,-,-,-⟩:=aA G6.o (((ah.drew).trans x3).trans x4))
   |(go_at_call 130;have _t:=tk5;refine (HD.o _ (x0.trans ((hx.drew.trans x3).trans x4))).mono ?_;rintro e w5 ⟨a5,c5,rfl,r5,f5,x5⟩;clear tk5 _t;obtain ⟨z0,z1,z2,⟨aD,aF,bn,aM,aN,bG⟩,⟨aJ,aK,bM,aR,aS,bT⟩,aZ,a_,bW,bA,bB,cf⟩:=bb3 aA aA aA A0 A1 A2 (((hx.drew.trans x3).trans x4).trans x5);obtain ⟨m0,m1,m2,-,-,-⟩:=aA G5.o ((((ah.drew).trans x3).trans x4).trans x5);obtain ⟨l0,l1,l2,-,-,-⟩:=aA G6.o ((((ah.drew).trans x3).trans x4).trans x5))
   |(go_at_call 132;have _t:=tk6;refine (HY.o _ _ _ _ _ (r2.ext ((((ah.drew).trans x3).trans x4).trans x5)) r5).mono ?_;rintro e w6 ⟨a6,c6,rfl,r6,f6,x6⟩;clear tk6 _t;obtain ⟨z0,z1,z2,⟨aD,aF,bn,aM,aN,bG⟩,⟨aJ,aK,bM,aR,aS,bT⟩,aZ,a_,bW,bA,bB,cf⟩:=bb3 aA aA aA A0 A1 A2 ((((hx.drew.trans x3).trans x4).trans x5).trans x6);obtain ⟨m0,m1,m2,-,-,-⟩:=aA G5.o (((((ah.drew).trans x3).trans x4).trans x5).trans x6);obtain ⟨l0,l1,l2,-,-,-⟩:=aA G6.o (((((ah.drew).trans x3).trans x4).trans x5).trans x6))
   |(go_at_call 131;refine (HA.o _ _ _ _ _ ((r4.ext x5).ext x6) r6).mono ?_;rintro e w7 ⟨a7,c7,rfl,r7,f7,x7⟩;obtain ⟨z0,z1,z2,⟨aD,aF,bn,aM,aN,bG⟩,⟨aJ,aK,bM,aR,aS,bT⟩,aZ,a_,bW,bA,bB,cf⟩:=bb3 aA aA aA A0 A1 A2 (((((hx.drew.trans x3).trans x4).trans x5).trans x6).trans x7);obtain ⟨m0,m1,m2,-,-,-⟩:=aA G5.o ((((((ah.drew).trans x3).trans x4).trans x5).trans x6).trans x7);obtain ⟨l0,l1,l2,-,-,-⟩:=aA G6.o ((((((ah.drew).trans x3).trans x4).trans x5).trans x6).trans x7))
   |(go_at_call 130;have _t:=tk8;refine (HD.o _ (x0.trans (((((hx.drew.trans x3).trans x4).trans x5).trans x6).trans x7))).mono ?_;rintro e w8 ⟨a8,c8,rfl,r8,f8,x8⟩;clear tk8 _t;obtain ⟨z0,z1,z2,⟨aD,aF,bn,aM,aN,bG⟩,⟨aJ,aK,bM,aR,aS,bT⟩,aZ,a_,bW,bA,bB,cf⟩:=bb3 aA aA aA A0 A1 A2 ((((((hx.drew.trans x3).trans x4).trans x5).trans x6).trans x7).trans x8);obtain ⟨m0,m1,m2,-,-,-⟩:=aA G5.o (((((((ah.drew).trans x3).trans x4).trans x5).trans x6).trans x7).trans x8);obtain ⟨l0,l1,l2,-,-,-⟩:=aA G6.o (((((((ah.drew).trans x3).trans x4).trans x5).trans x6).trans x7).trans x8))
   |(go_at_call 130;refine (TY.o _ (x0.trans ((((((hx.drew.trans x3).trans x4).trans x5).trans x6).trans x7).trans x8))).mono ?_;rintro e w9 ⟨a9,c9,rfl,r9,f9,x9⟩;obtain ⟨z0,z1,z2,⟨aD,aF,bn,aM,aN,bG⟩,⟨aJ,aK,bM,aR,aS,bT⟩,aZ,a_,bW,bA,bB,cf⟩:=bb3 aA aA aA A0 A1 A2 (((((((hx.drew.trans x3).trans x4).trans x5).trans x6).trans x7).trans x8).trans x9);obtain ⟨m0,m1,m2,-,-,-⟩:=aA G5.o ((((((((ah.drew).trans x3).trans x4).trans x5).trans x6).trans x7).trans x8).trans x9);obtain ⟨l0,l1,l2,-,-,-⟩:=aA G6.o ((((((((ah.drew).trans x3).trans x4).trans x5).trans x6).trans x7).trans x8).trans x9))
   |(go_at_call 132;refine (HZ.o _ _ _ _ _ (r8.ext x9) r9).mono ?_;rintro e xZ ⟨Fc,c10,rfl,zE,f10,Qo⟩;obtain ⟨z0,z1,z2,⟨aD,aF,bn,aM,aN,bG⟩,⟨aJ,aK,bM,aR,aS,bT⟩,aZ,a_,bW,bA,bB,cf⟩:=bb3 aA aA aA A0 A1 A2 ((((((((hx.drew.trans x3).trans x4).trans x5).trans x6).trans x7).trans x8).trans x9).trans Qo);obtain ⟨m0,m1,m2,-,-,-⟩:=aA G5.o (((((((((ah.drew).trans x3).trans x4).trans x5).trans x6).trans x7).trans x8).trans x9).trans Qo);obtain ⟨l0,l1,l2,-,-,-⟩:=aA G6.o (((((((((ah.drew).trans x3).trans x4).trans x5).trans x6).trans x7).trans x8).trans x9).trans Qo))
   |(go_at_call 37;refine (HM.o _ _ _ _ _ (((r7.ext x8).ext x9).ext Qo) zE).mono ?_;intro e N7 kd;obtain ⟨ZO,c11,b11,d11,rfl,r11,f11,q11,g11,Wm⟩:=id kd;obtain ⟨z0,z1,z2,⟨aD,aF,bn,aM,aN,bG⟩,⟨aJ,aK,bM,aR,aS,bT⟩,aZ,a_,bW,bA,bB,cf⟩:=bb3 aA aA aA A0 A1 A2 (((((((((hx.drew.trans x3).trans x4).trans x5).trans x6).trans x7).trans x8).trans x9).trans Qo).trans Wm);obtain ⟨m0,m1,m2,-,-,-⟩:=aA G5.o ((((((((((ah.drew).trans x3).trans x4).trans x5).trans x6).trans x7).trans x8).trans x9).trans Qo).trans Wm);obtain ⟨l0,l1,l2,-,-,-⟩:=aA G6.o ((((((((((ah.drew).trans x3).trans x4).trans x5).trans x6).trans x7).trans x8).trans x9).trans Qo).trans Wm)))
  go_wp2
  exact bodyPost_ret (by simp [results,results57,go_sem,aZ,a_,bW]) rfl (dG.Oi (kd.base (((((((x3.trans x4).trans x5).trans x6).trans x7).trans x8).trans x9).trans Qo)) x0 hx.drew (Touch.three _ ae (by rw [Z0.o];omega) _ _ _))
theorem uR (V:World) (s1 t:Bool) (n1 n2:Nat) (R:Rat) (hR:mkRat (bf (s1 !=t) n1) n2=R) (b1:len n1<900000000) (b2:len n2<900000000) (a:Option Addr) (c:Nat) (b:Option Addr) (d:Nat) (h:Raw V a (len n1) c n1) (h':Raw V b (len n2) d n2):
 Calls prog 37 #[.agg #[.bool s1,.slice a (len n1) c],.agg #[.bool t,.slice b (len n2) d]] V (dG (decide (R.num<0)) R.num.natAbs R.den V):=by
 have:=yL V s1 t a b _ c _ d n1 n2 h h' b1 b2;rw [hR]at this;exact this
theorem ln (V:World) (s1 t:Bool) (n1 n2:Nat) (z:Int) (hz:bf s1 n1*bf t n2=z) (b1:len n1<1000000000) (b2:len n2<1000000000) (a:Option Addr) (c:Nat) (b:Option Addr) (d:Nat) (h:Raw V a (len n1) c n1) (h':Raw V b (len n2) d n2):
 Calls prog 132 #[.agg #[.bool s1,.slice a (len n1) c],.agg #[.bool t,.slice b (len n2) d]] V (eJ (decide (z<0)) z.natAbs V):=by
 have:=Uu V s1 t a b _ c _ d n1 n2 h h' b1 b2;rw [hz]at this;exact this
theorem LO (V:World) (s1 t:Bool) (n1 n2:Nat) (z:Int) (hz:bf s1 n1+bf t n2=z) (b1:len n1<1000000000) (b2:len n2<1000000000) (a:Option Addr) (c:Nat) (b:Option Addr) (d:Nat) (h:Raw V a (len n1) c n1) (h':Raw V b (len n2) d n2):
 Calls prog 131 #[.agg #[.bool s1,.slice a (len n1) c],.agg #[.bool t,.slice b (len n2) d]] V (eJ (decide (z<0)) z.natAbs V):=by
 have:=Dq V s1 t a b _ c _ d n1 n2 h h' b1 b2;rw [hz]at this;exact this
theorem kG (s:Bool) (n m:Nat) {k j:Nat} (h1:len n<=k) (h2:len m<=j) (b1:k<200000000) (b2:j<200000000):len (mkRat (bf s n) m).num.natAbs<200000000/\len (mkRat (bf s n) m).den<200000000:=by
 have h:=kn (bf s n) m;rw [bL]at h;have h3:=iN (mkRat (bf s n) m);have h4:=iw (mkRat (bf s n) m);omega
theorem II (w:World) (s:Bool) (a b:Option Addr) (k c j d n m:Nat) (h:Raw w a k c n) (g:Raw w b j d m) (b1:k<200000000) (b2:j<200000000):Calls prog 56 #[.agg #[.bool s,.slice a k c,.slice b j d]] w (bD (-(mkRat (bf s n) m)) w):=by
 obtain ⟨l1,l2⟩:=kG s n m h.cg g.cg b1 b2;have hN:=λV (hV:Ext w V)=>(lR V s a b k c j d n m (h.ext hV) (g.ext hV) b1 b2).mono (λ_ _ hh=>hh.mO);have hD:=λV (hV:Ext w V)=>qU V s a b k c j d n m (h.ext hV) (g.ext hV) b1 b2;generalize mkRat (bf s n) m=P at*;refine (Fz w s a b k c j d _ (decide (-P.num<0)) _ _ _ (-P.num).natAbs _ _ hN hD ?_ (λV a c b d h1 h2=>uR V _ _ _ _ (-P) ?_ ?_ ?_ a c b d h1 h2)).mono (λ_ _ hh=>hh.qP)
 .intro V a c hR
  have:=Dm V (decide (P.num<0)) a _ c _ hR;rw [df]at this;exact this
 .rw [Bool.bne_false,df,<-Rat.neg_mkRat,Rat.mkRat_self]
 .rw [Int.natAbs_neg];omega
 .omega
theorem np {x y:Nat} (h1:len x<200000000) (h2:len y<200000000):len (x*y)<400000000:=by
 have:=gX x y;omega
theorem UF (w:World) (s:Bool) (a b:Option Addr) (k c j d n m:Nat) (h:Raw w a k c n) (g:Raw w b j d m) (s':Bool) (a' b':Option Addr) (k' c' j' d' n' m':Nat) (h':Raw w a' k' c' n') (g':Raw w b' j' d' m') (b1:k<200000000) (b2:j<200000000) (rZ:k'<200000000) (rW:j'<200000000):Calls prog 58 #[.agg #[.bool s,.slice a k c,.slice b j d],.agg #[.bool s',.slice a' k' c',.slice b' j' d']] w (bD (mkRat (bf s n) m*mkRat (bf s' n') m') w):=by
 obtain ⟨l1,l2⟩:=kG s n m h.cg g.cg b1 b2;obtain ⟨l3,l4⟩:=kG s' n' m' h'.cg g'.cg rZ rW;have hN:=λV (hV:Ext w V)=>(lR V s a b k c j d n m (h.ext hV) (g.ext hV) b1 b2).mono (λ_ _ hh=>hh.mO);have hD:=λV (hV:Ext w V)=>qU V s a b k c j d n m (h.ext hV) (g.ext hV) b1 b2;have Ki:=λV (hV:Ext w V)=>(lR V s' a' b' k' c' j' d' n' m' (h'.ext hV) (g'.ext hV) rZ rW).mono (λ_ _ hh=>hh.mO);have E9:=λV (hV:Ext w V)=>qU V s' a' b' k' c' j' d' n' m' (h'.ext hV) (g'.ext hV) rZ rW;generalize mkRat (bf s n) m=P at*;generalize mkRat (bf s' n') m'=Q at*;have e2:decide ((P.den:Int)*(Q.den:Int)<0)=false:=decide_eq_false (by rw [<-Int.natCast_mul];omega);have e3:((P.den:Int)*(Q.den:Int)).natAbs=P.den*Q.den:=by rw [<-Int.natCast_mul,Int.natAbs_natCast]
 refine (FA w s a b k c j d s' a' b' k' c' j' d' _ _ _ _ _ _ _ _ _ _ _ _ _ hN Ki hD E9 (λV a c b d h1 h2=>ln V _ _ _ _ (P.num*Q.num) ?_ ?_ ?_ a c b d h1 h2) (λV a c b d h1 h2=>ln V _ _ _ _ ((P.den:Int)*(Q.den:Int)) ?_ ?_ ?_ a c b d h1 h2) (λV a c b d h1 h2=>uR V _ _ _ _ (P*Q) ?_ ?_ ?_ a c b d h1 h2)).mono (λ_ _ hh=>hh.qP)
 .rw [df,df]
 .omega
 .omega
 .rw [dy,dy]
 .omega
 .omega
 .rw [e2,Bool.bne_false,df,e3,Rat.mul_def']
 .rw [Int.natAbs_mul];have:=np l1 l3;omega
 .rw [e3];have:=np l2 l4;omega
theorem div_val (P Q:Rat) (_hQ:Q.num≠0):mkRat (bf (decide (P.num*(Q.den:Int)<0) !=decide ((P.den:Int)*Q.num<0)) (P.num*(Q.den:Int)).natAbs) ((P.den:Int)*Q.num).natAbs=P/Q:=by
 have hd:0<Q.den:=Q.den_pos;have hd':0<P.den:=P.den_pos;obtain ⟨t,ht⟩: ∃t,t=decide (Q.num<0):=⟨_,rfl⟩
 have e1:decide (P.num*(Q.den:Int)<0)=decide (P.num<0):=by
  have h5:=mS P.num Q.den hd;by_cases h:P.num<0
  .rw [Int.sign_eq_neg_one_of_neg h]at h5
   rw [decide_eq_true h,decide_eq_true (Int.sign_eq_neg_one_iff_neg.1 h5)]
  .rw [decide_eq_false h,decide_eq_false (Int.not_lt.2 (Int.mul_nonneg ae ae))]
 have e2:decide ((P.den:Int)*Q.num<0)=t:=by
  have h5:=mS Q.num P.den hd';rw [Int.mul_comm,ht];by_cases h:Q.num<0
  .rw [Int.sign_eq_neg_one_of_neg h]at h5
   rw [decide_eq_true h,decide_eq_true (Int.sign_eq_neg_one_iff_neg.1 h5)]
  .rw [decide_eq_false h,decide_eq_false (Int.not_lt.2 (Int.mul_nonneg ae ae))]
 rw [e1,e2,Int.natAbs_mul,Int.natAbs_mul,Int.natAbs_natCast,Int.natAbs_natCast,Db,df,<-Rat.mkRat_mul_mkRat,Rat.mkRat_self,B_,Rat.div_def,ht,df,Rat.mkRat_self]
theorem UG (w:World) (s:Bool) (a b:Option Addr) (k c j d n m:Nat) (h:Raw w a k c n) (g:Raw w b j d m) (s':Bool) (a' b':Option Addr) (k' c' j' d' n' m':Nat) (h':Raw w a' k' c' n') (g':Raw w b' j' d' m') (b1:k<200000000) (b2:j<200000000) (rZ:k'<200000000) (rW:j'<200000000) (h0: ¬mkRat (bf s' n') m'=0):Calls prog 152 #[.agg #[.bool s,.slice a k c,.slice b j d],.agg #[.bool s',.slice a' k' c',.slice b' j' d']] w (yD (decide ((mkRat (bf s n) m/mkRat (bf s' n') m').num<0)) (mkRat (bf s n) m/mkRat (bf s' n') m').num.natAbs (mkRat (bf s n) m/mkRat (bf s' n') m').den w):=by
 obtain ⟨l1,l2⟩:=kG s n m h.cg g.cg b1 b2;obtain ⟨l3,l4⟩:=kG s' n' m' h'.cg g'.cg rZ rW;have hN:=λV (hV:Ext w V)=>(lR V s a b k c j d n m (h.ext hV) (g.ext hV) b1 b2).mono (λ_ _ hh=>hh.mO);have hD:=λV (hV:Ext w V)=>qU V s a b k c j d n m (h.ext hV) (g.ext hV) b1 b2;have Ki:=λV (hV:Ext w V)=>(lR V s' a' b' k' c' j' d' n' m' (h'.ext hV) (g'.ext hV) rZ rW).mono (λ_ _ hh=>hh.mO);have E9:=λV (hV:Ext w V)=>qU V s' a' b' k' c' j' d' n' m' (h'.ext hV) (g'.ext hV) rZ rW;have hS:=λV (hV:Ext w V)=>uQ V s' a' b' k' c' j' d' n' m' (h'.ext hV) (g'.ext hV) rZ rW;generalize mkRat (bf s n) m=P at*;generalize mkRat (bf s' n') m'=Q at*;have tR:Q.num≠0:=λe=>h0 (Rat.num_eq_zero.1 e);have hz:(Q.num.sign==0)=false:=by rw [beq_eq_false_iff_ne];exact λe=>h0 (eP.1 e)
 refine FC w s a b k c j d s' a' b' k' c' j' d' _ _ _ _ _ _ _ _ _ _ _ _ _ _ hz hS hN Ki hD E9 (λV a c b d h1 h2=>ln V _ _ _ _ (P.num*(Q.den:Int)) ?_ ?_ ?_ a c b d h1 h2) (λV a c b d h1 h2=>ln V _ _ _ _ ((P.den:Int)*Q.num) ?_ ?_ ?_ a c b d h1 h2) (λV a c b d h1 h2=>uR V _ _ _ _ (P/Q) ?_ ?_ ?_ a c b d h1 h2)
 .rw [df,dy]
 .omega
 .omega
 .rw [df,dy]
 .omega
 .omega
 .exact div_val P Q tR
 .rw [Int.natAbs_mul,Int.natAbs_natCast];have:=np l1 l4;omega
 .rw [Int.natAbs_mul,Int.natAbs_natCast];have:=np l2 l3;omega
theorem IJ (w:World) (s:Bool) (a b:Option Addr) (k c j d n m:Nat) (h:Raw w a k c n) (g:Raw w b j d m) (s':Bool) (a' b':Option Addr) (k' c' j' d' n' m':Nat) (h':Raw w a' k' c' n') (g':Raw w b' j' d' m') (b1:k<200000000) (b2:j<200000000) (rZ:k'<200000000) (rW:j'<200000000):Calls prog 57 #[.agg #[.bool s,.slice a k c,.slice b j d],.agg #[.bool s',.slice a' k' c',.slice b' j' d']] w (bD (mkRat (bf s n) m+mkRat (bf s' n') m') w):=by
 obtain ⟨l1,l2⟩:=kG s n m h.cg g.cg b1 b2;obtain ⟨l3,l4⟩:=kG s' n' m' h'.cg g'.cg rZ rW;have hN:=λV (hV:Ext w V)=>(lR V s a b k c j d n m (h.ext hV) (g.ext hV) b1 b2).mono (λ_ _ hh=>hh.mO);have hD:=λV (hV:Ext w V)=>qU V s a b k c j d n m (h.ext hV) (g.ext hV) b1 b2;have Ki:=λV (hV:Ext w V)=>(lR V s' a' b' k' c' j' d' n' m' (h'.ext hV) (g'.ext hV) rZ rW).mono (λ_ _ hh=>hh.mO);have E9:=λV (hV:Ext w V)=>qU V s' a' b' k' c' j' d' n' m' (h'.ext hV) (g'.ext hV) rZ rW;generalize mkRat (bf s n) m=P at*;generalize mkRat (bf s' n') m'=Q at*;have e2:decide ((P.den:Int)*(Q.den:Int)<0)=false:=decide_eq_false (by rw [<-Int.natCast_mul];omega);have e3:((P.den:Int)*(Q.den:Int)).natAbs=P.den*Q.den:=by rw [<-Int.natCast_mul,Int.natAbs_natCast]
 have f1:len (P.num*(Q.den:Int)).natAbs<400000000:=by rw [Int.natAbs_mul,Int.natAbs_natCast];exact np l1 l4
 have f2:len (Q.num*(P.den:Int)).natAbs<400000000:=by rw [Int.natAbs_mul,Int.natAbs_natCast];exact np l3 l2
 refine (FD w s a b k c j d s' a' b' k' c' j' d' _ _ _ _ _ _ _ _ _ _ _ _ _ _ _ _ _ hN Ki hD E9 (λV a c b d h1 h2=>ln V _ _ _ _ (P.num*(Q.den:Int)) ?_ ?_ ?_ a c b d h1 h2) (λV a c b d h1 h2=>ln V _ _ _ _ (Q.num*(P.den:Int)) ?_ ?_ ?_ a c b d h1 h2) (λV a c b d h1 h2=>LO V _ _ _ _ (P.num*(Q.den:Int)+Q.num*(P.den:Int)) ?_ ?_ ?_ a c b d h1 h2) (λV a c b d h1 h2=>ln V _ _ _ _ ((P.den:Int)*(Q.den:Int)) ?_ ?_ ?_ a c b d h1 h2) (λV a c b d h1 h2=>uR V _ _ _ _ (P+Q) ?_ ?_ ?_ a c b d h1 h2)).mono (λ_ _ hh=>hh.qP)
 .rw [df,dy]
 .omega
 .omega
 .rw [df,dy]
 .omega
 .omega
 .rw [df,df]
 .omega
 .omega
 .rw [dy,dy]
 .omega
 .omega
 .rw [e2,Bool.bne_false,df,e3,Rat.add_def']
 .have:=pJ (P.num*(Q.den:Int)) (Q.num*(P.den:Int));omega
 .rw [e3];have:=np l2 l4;omega
