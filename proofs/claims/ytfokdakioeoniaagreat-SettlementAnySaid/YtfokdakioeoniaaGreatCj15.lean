/- Texts of the proof. -/
import Derived.Test.YtfokdakioeoniaaGreatCj14
set_option linter.all false
set_option maxHeartbeats 2000000
set_option maxRecDepth 100000
namespace Go.Proofs.YtfokdakioeoniaaGreat
open Go.Proofs.Tryz
open Go.RowKit
theorem Tryz.rat_num (s:Bool) (a b:Option Addr) (k c j d:Nat) (w:World):(Instr.field 63 (.agg #[.bool s,.slice a k c,.slice b j d]) 0).run Tryz.prog w= .ok (.agg #[.bool s,.slice a k c]) w:=aw
theorem Tryz.rat_den (s:Bool) (a b:Option Addr) (k c j d:Nat) (w:World):(Instr.field 63 (.agg #[.bool s,.slice a k c,.slice b j d]) 1).run Tryz.prog w= .ok (.slice b j d) w:=aw
theorem bD.mO {q:Rat} {w w':World} {e:Ending} (h:bD q w e w'):dG (decide (q.num<0)) q.num.natAbs q.den w e w':=h
theorem dG.qP {q:Rat} {w w':World} {e:Ending} (h:dG (decide (q.num<0)) q.num.natAbs q.den w e w'):bD q w e w':=h
theorem dG.Oi {s:Bool} {n m:Nat} {w W w1 w2 w3:World} {e:Ending} (h:dG s n m w1 e w2) (hW:Ext w W) (h1:Ext W w1) (t:Touch w.heap.size W.heap.size w2 w3):dG s n m w e w3:=by
 obtain ⟨a,c,a',c',he,hr,hf,oB,hf',hx⟩:=h;exact ⟨a,c,a',c',he,hr.bH t (hf.mono h1.size).o,hf.mono (Nat.le_trans hW.size h1.size),oB.bH t (hf'.mono h1.size).o,hf'.mono (Nat.le_trans hW.size h1.size),hW.bH (h1.trans hx) t⟩
theorem lR (w:World) (s:Bool) (a b:Option Addr) (k c j d n m:Nat) (h:Raw w a k c n) (g:Raw w b j d m) (b1:k<200000000) (b2:j<200000000):
 Calls prog 51 #[.agg #[.bool s,.slice a k c,.slice b j d]] w (bD (mkRat (bf s n) m) w):=by
 have hM: ∀V,Ext w V->Calls prog 37 #[.agg #[.bool s,.slice a k c],.agg #[.bool false,.slice b j d]] V (bD (mkRat (bf s n) m) V):=by
  intro V hV;have:=yL V s false a b k c j d n m (h.ext hV) (g.ext hV) ae ae;rw [Bool.bne_false]at this;exact this
 have HM:=af hM;clear hM
 go_enter func51,ntmps51
 go_wp2_with fail
 obtain ⟨W,hW,x0,Z0,A0,A1⟩:=dV w 63 [.bool s,.slice a k c,.slice b j d] 63 [.bool false,.slice none 0 0,.slice none 0 0];rw [<-hW];clear hW;obtain ⟨z0,z1,⟨aD,aF,bn,aM,aN,bG⟩,aJ,aK,bM,aR,aS,bT⟩:=bb2 aA aA A0 A1 ah;refine (HM.o _ x0).mono ?_;intro e w1 hN;obtain ⟨a1,c1,a2,c2,rfl,r1,f1,r2,f2,x1⟩:=id hN;obtain ⟨z0,z1,⟨aD,aF,bn,aM,aN,bG⟩,aJ,aK,bM,aR,aS,bT⟩:=bb2 aA aA A0 A1 x1;go_wp2
 exact bodyPost_ret (by simp [results,results51,go_sem,aJ,aK,bM]) rfl (bD.bH hN x0 (Touch.three _ ae (by rw [Z0.o];omega) _ _ _))
theorem Fy (w:World) (s:Bool) (a b:Option Addr) (k c j d _n _m:Nat) (sP:Bool) (nP dP:Nat) (hN: ∀V,Ext w V->Calls prog 51 #[.agg #[.bool s,.slice a k c,.slice b j d]] V (dG sP nP dP V)):
 Calls prog 130 #[.agg #[.bool s,.slice a k c,.slice b j d]] w (eJ false dP w):=by
 have HN:=af hN;clear hN
 have SS:=Tryz.rat_den;go_enter func130,ntmps130
 go_wp2_with fail
 obtain ⟨W,hW,x0,Z0,A0,A1⟩:=dV w 63 [.bool s,.slice a k c,.slice b j d] 61 [.bool false,.slice none 0 0];rw [<-hW];clear hW;obtain ⟨z0,z1,⟨aD,aF,bn,aM,aN,bG⟩,aJ,aK,aR,aS⟩:=bb2 aA aC A0 A1 ah;refine (HN.o _ x0).mono ?_;rintro e w1 ⟨a1,c1,a2,c2,rfl,r1,f1,r2,f2,x1⟩;obtain ⟨z0,z1,⟨aD,aF,bn,aM,aN,bG⟩,aJ,aK,aR,aS⟩:=bb2 aA aC A0 A1 x1;go_wp2_with fail
 have fin:eJ false dP W (.returned (.agg #[.bool false,.slice a2 (len dP) c2])) w1:=⟨_,_,rfl,r2,f2,x1⟩;exact bodyPost_ret (by simp [results,results130,go_sem,aJ,aK]) rfl (eJ.bH fin x0 (Touch.two _ ae (by rw [Z0.o];omega) _ _))
theorem qU (w:World) (s:Bool) (a b:Option Addr) (k c j d n m:Nat) (h:Raw w a k c n) (g:Raw w b j d m) (b1:k<200000000) (b2:j<200000000):
 Calls prog 130 #[.agg #[.bool s,.slice a k c,.slice b j d]] w (eJ false (mkRat (bf s n) m).den w):=
 Fy w s a b k c j d n m (decide ((mkRat (bf s n) m).num<0)) (mkRat (bf s n) m).num.natAbs (mkRat (bf s n) m).den (λV hV=>(lR V s a b k c j d n m (h.ext hV) (g.ext hV) b1 b2).mono (λ_ _ hh=>hh.mO))
theorem Dv (w:World) (s:Bool) (a b:Option Addr) (k c j d _n _m:Nat) (sP:Bool) (nP dP:Nat) (z:Int) (hN: ∀V,Ext w V->Calls prog 51 #[.agg #[.bool s,.slice a k c,.slice b j d]] V (dG sP nP dP V))
 (hS: ∀V a c,Raw V a (len nP) c nP->Calls prog 50 #[.agg #[.bool sP,.slice a (len nP) c]] V λe w'=>e= .returned (.int .i64 z)/\Ext V w'):
 Calls prog 21 #[.agg #[.bool s,.slice a k c,.slice b j d]] w λe w'=>e= .returned (.int .i64 z)/\Ext w w':=by
 have HN:=af hN;have HS:=af hS;clear hN hS
 have SU:=Tryz.rat_num;go_enter func21,ntmps21
 go_wp2_with fail
 obtain ⟨W,hW,x0,Z0,A0⟩:=bS w 63 [.bool s,.slice a k c,.slice b j d];rw [<-hW];clear hW;obtain ⟨z0,aD,aF,bn,aM,aN,bG⟩:=bb1 aA A0 ah;refine (HN.o _ x0).mono ?_;rintro e w1 ⟨a1,c1,a2,c2,rfl,r1,f1,r2,f2,x1⟩;go_wp2_with fail
 refine (HS.o _ _ _ r1).mono ?_;rintro e w2 ⟨rfl,x2⟩;go_wp2
 go_ret;exact ⟨rfl,(x0.trans x1).trans x2⟩
theorem uQ (w:World) (s:Bool) (a b:Option Addr) (k c j d n m:Nat) (h:Raw w a k c n) (g:Raw w b j d m) (b1:k<200000000) (b2:j<200000000):
 Calls prog 21 #[.agg #[.bool s,.slice a k c,.slice b j d]] w λe w'=>e= .returned (.int .i64 (mkRat (bf s n) m).num.sign)/\Ext w w':=
 Dv w s a b k c j d n m (decide ((mkRat (bf s n) m).num<0)) (mkRat (bf s n) m).num.natAbs (mkRat (bf s n) m).den _ (λV hV=>(lR V s a b k c j d n m (h.ext hV) (g.ext hV) b1 b2).mono (λ_ _ hh=>hh.mO))
  (λV a c hR=>by
    have:=uP V (decide ((mkRat (bf s n) m).num<0)) a _ c _ hR;rw [df]at this;exact this)
theorem yg (w:World) (x:Int) (s1 s2 s:Bool) (n1 n2 n m:Nat) (h1: ∀V,Calls prog 38 #[.int .i64 x] V (eJ s1 n1 V)) (h2: ∀V,Calls prog 38 #[.int .i64 1] V (eJ s2 n2 V))
 (h3: ∀V a c b d,Raw V a (len n1) c n1->Raw V b (len n2) d n2->Calls prog 37 #[.agg #[.bool s1,.slice a (len n1) c],.agg #[.bool s2,.slice b (len n2) d]] V (dG s n m V)):
 Calls prog 16 #[.int .i64 x] w (dG s n m w):=by
 have H1:=af h1;have H2:=af h2;have H3:=af h3;clear h1 h2 h3
 go_enter func16,ntmps16
 go_wp2_with fail
 obtain ⟨W,hW,x0,Z0,A0⟩:=bS w 63 [.bool false,.slice none 0 0,.slice none 0 0];rw [<-hW];clear hW;obtain ⟨z0,aD,aF,bn,aM,aN,bG⟩:=bb1 aA A0 ah;refine (H1.o _).mono ?_;rintro e w1 ⟨a1,c1,rfl,r1,f1,x1⟩;obtain ⟨z0,aD,aF,bn,aM,aN,bG⟩:=bb1 aA A0 x1;go_wp2_with fail
 refine (H2.o _).mono ?_;rintro e w2 ⟨a2,c2,rfl,r2,f2,x2⟩;obtain ⟨z0,aD,aF,bn,aM,aN,bG⟩:=bb1 aA A0 (x1.trans x2);go_wp2_with fail
 refine (H3.o _ _ _ _ _ (r1.ext x2) r2).mono ?_;intro e w3 hN;obtain ⟨a3,c3,a4,c4,rfl,r3,f3,r4,f4,x3⟩:=id hN;obtain ⟨z0,aD,aF,bn,aM,aN,bG⟩:=bb1 aA A0 ((x1.trans x2).trans x3);go_wp2
 exact bodyPost_ret (by simp [results,results16,go_sem,aD,aF,bn]) rfl (dG.bH (hN.base (x1.trans x2)) x0 (Touch.three _ ae (by rw [Z0.o];omega) _ _ _))
theorem kf (w:World) (x:Int) (h1: -9223372036854775808<=x) (h2:x<=9223372036854775807):
 Calls prog 16 #[.int .i64 x] w (bD (x:Rat) w):=
 yg w x _ _ _ _ _ _ _ (λV=>nk V x h1 h2) (λV=>nk V 1 ai ai)
  (λV a c b d hR IE=>by
    have:=yL V (decide (x<0)) (decide ((1:Int)<0)) a b _ c _ d _ _ hR IE (dB (eT h1 h2)) ai;rw [show decide ((1:Int)<0)=false from rfl,Bool.bne_false,df,show(Int.natAbs 1)=1 from rfl,Rat.mkRat_one]at this;exact this)
theorem IG (w:World) (x y:Int) (s1 s2 s:Bool) (n1 n2 n m:Nat) (h1: ∀V,Calls prog 38 #[.int .i64 x] V (eJ s1 n1 V)) (h2: ∀V,Calls prog 38 #[.int .i64 y] V (eJ s2 n2 V))
 (h3: ∀V a c b d,Raw V a (len n1) c n1->Raw V b (len n2) d n2->Calls prog 37 #[.agg #[.bool s1,.slice a (len n1) c],.agg #[.bool s2,.slice b (len n2) d]] V (dG s n m V)):
 Calls prog 29 #[.int .i64 x,.int .i64 y] w (dG s n m w):=by
 have H1:=af h1;have H2:=af h2;have H3:=af h3;clear h1 h2 h3
 go_enter func29,ntmps29
 go_wp2_with fail
 obtain ⟨W,hW,x0,Z0,A0⟩:=bS w 63 [.bool false,.slice none 0 0,.slice none 0 0];rw [<-hW];clear hW;obtain ⟨z0,aD,aF,bn,aM,aN,bG⟩:=bb1 aA A0 ah;refine (H1.o _).mono ?_;rintro e w1 ⟨a1,c1,rfl,r1,f1,x1⟩;obtain ⟨z0,aD,aF,bn,aM,aN,bG⟩:=bb1 aA A0 x1;go_wp2_with fail
 refine (H2.o _).mono ?_;rintro e w2 ⟨a2,c2,rfl,r2,f2,x2⟩;obtain ⟨z0,aD,aF,bn,aM,aN,bG⟩:=bb1 aA A0 (x1.trans x2);go_wp2_with fail
 refine (H3.o _ _ _ _ _ (r1.ext x2) r2).mono ?_;intro e w3 hN;obtain ⟨a3,c3,a4,c4,rfl,r3,f3,r4,f4,x3⟩:=id hN;obtain ⟨z0,aD,aF,bn,aM,aN,bG⟩:=bb1 aA A0 ((x1.trans x2).trans x3);go_wp2
 exact bodyPost_ret (by simp [results,results29,go_sem,aD,aF,bn]) rfl (dG.bH (hN.base (x1.trans x2)) x0 (Touch.three _ ae (by rw [Z0.o];omega) _ _ _))
theorem SV (w:World) (x:Int) (y:Nat) (h1: -9223372036854775808<=x) (h2:x<=9223372036854775807) (h3:y<=9223372036854775807):
 Calls prog 29 #[.int .i64 x,.int .i64 (y:Nat)] w (bD (mkRat x y) w):=
 IG w x y _ _ _ _ _ _ _ (λV=>nk V x h1 h2) (λV=>nk V y ae ae)
  (λV a c b d hR IE=>by
    have:=yL V (decide (x<0)) (decide ((y:Int)<0)) a b _ c _ d _ _ hR IE (dB (eT h1 h2)) (dB (eT (z:=(y:Int)) ae ae));rw [decide_eq_false (show¬(y:Int)<0 by omega),Bool.bne_false,df,Int.natAbs_natCast]at this;rw [decide_eq_false (show¬(y:Int)<0 by omega),Int.natAbs_natCast];exact this)
theorem Fz (w:World) (s:Bool) (a b:Option Addr) (k c j d:Nat) (sP s1 sR:Bool) (nP dP n1 nR dR:Nat) (hN: ∀V,Ext w V->Calls prog 51 #[.agg #[.bool s,.slice a k c,.slice b j d]] V (dG sP nP dP V)) (hD: ∀V,Ext w V->Calls prog 130 #[.agg #[.bool s,.slice a k c,.slice b j d]] V (eJ false dP V)) (hI: ∀V a c,Raw V a (len nP) c nP->Calls prog 84 #[.agg #[.bool sP,.slice a (len nP) c]] V (eJ s1 n1 V)) (hM: ∀V a c b d,Raw V a (len n1) c n1->Raw V b (len dP) d dP->Calls prog 37 #[.agg #[.bool s1,.slice a (len n1) c],.agg #[.bool false,.slice b (len dP) d]] V (dG sR nR dR V)):
 Calls prog 56 #[.agg #[.bool s,.slice a k c,.slice b j d]] w (dG sR nR dR w):=by
 have HN:=af hN;have HD:=af hD;have HI:=af hI;have HM:=af hM;clear hN hD hI hM
 have SU:=Tryz.rat_num;have SS:=Tryz.rat_den;go_enter func56,ntmps56
 go_wp2_with fail
 obtain ⟨W,hW,x0,Z0,A0,A1⟩:=dV w 63 [.bool s,.slice a k c,.slice b j d] 63 [.bool false,.slice none 0 0,.slice none 0 0];rw [<-hW];clear hW;obtain ⟨z0,z1,⟨aD,aF,bn,aM,aN,bG⟩,aJ,aK,bM,aR,aS,bT⟩:=bb2 aA aA A0 A1 ah
 go_region_held3 (λw'=>w'.cell? ⟨w.heap.size,0,none⟩=some (.bool s)/\w'.cell? ⟨w.heap.size,1,none⟩=some (.slice a k c)/\w'.cell? ⟨w.heap.size,2,none⟩=some (.slice b j d)) (first|exact ⟨aD,aF,bn⟩|(simp [go_sem,aD,aF,bn])) (first
  |(go_at_call 51;refine (HN.o _ (by exact x0.trans (ah.drew))).mono ?_;rintro e w1 ⟨a1,c1,b1,d1,rfl,r1,f1,q1,g1,x1⟩;obtain ⟨z0,z1,⟨aD,aF,bn,aM,aN,bG⟩,aJ,aK,bM,aR,aS,bT⟩:=bb2 aA aA A0 A1 ((ah.drew).trans x1))
  |(go_at_call 84;refine (HI.o _ _ _ r1).mono ?_;rintro e w2 ⟨a2,c2,rfl,r2,f2,x2⟩;obtain ⟨z0,z1,⟨aD,aF,bn,aM,aN,bG⟩,aJ,aK,bM,aR,aS,bT⟩:=bb2 aA aA A0 A1 (((ah.drew).trans x1).trans x2))
  |(go_at_call 130;refine (HD.o _ (by exact x0.trans (((ah.drew).trans x1).trans x2))).mono ?_;rintro e w3 ⟨a3,c3,rfl,r3,f3,x3⟩;obtain ⟨z0,z1,⟨aD,aF,bn,aM,aN,bG⟩,aJ,aK,bM,aR,aS,bT⟩:=bb2 aA aA A0 A1 ((((ah.drew).trans x1).trans x2).trans x3))
  |(go_at_call 37;refine (HM.o _ _ _ _ _ (r2.ext x3) r3).mono ?_;intro e w4 kd;obtain ⟨a4,c4,b4,d4,rfl,r4,f4,q4,g4,x4⟩:=id kd;obtain ⟨z0,z1,⟨aD,aF,bn,aM,aN,bG⟩,aJ,aK,bM,aR,aS,bT⟩:=bb2 aA aA A0 A1 (((((ah.drew).trans x1).trans x2).trans x3).trans x4)))
 go_wp2
 exact bodyPost_ret (by simp [results,results56,go_sem,aJ,aK,bM]) rfl (dG.bH (kd.base ((x1.trans x2).trans x3)) x0.drew (Touch.three _ ae (by rw [World.drew,Z0.o];omega) _ _ _))
theorem FA (w:World) (s:Bool) (a b:Option Addr) (k c j d:Nat) (s':Bool) (a' b':Option Addr) (k' c' j' d':Nat) (sP sQ s1 s2 sR:Bool) (nP dP nQ dQ n1 n2 nR dR:Nat) (hN: ∀V,Ext w V->Calls prog 51 #[.agg #[.bool s,.slice a k c,.slice b j d]] V (dG sP nP dP V)) (Ki: ∀V,Ext w V->Calls prog 51 #[.agg #[.bool s',.slice a' k' c',.slice b' j' d']] V (dG sQ nQ dQ V)) (hD: ∀V,Ext w V->Calls prog 130 #[.agg #[.bool s,.slice a k c,.slice b j d]] V (eJ false dP V)) (E9: ∀V,Ext w V->Calls prog 130 #[.agg #[.bool s',.slice a' k' c',.slice b' j' d']] V (eJ false dQ V)) (hX: ∀V a c b d,Raw V a (len nP) c nP->Raw V b (len nQ) d nQ->Calls prog 132 #[.agg #[.bool sP,.slice a (len nP) c],.agg #[.bool sQ,.slice b (len nQ) d]] V (eJ s1 n1 V)) (hY: ∀V a c b d,Raw V a (len dP) c dP->Raw V b (len dQ) d dQ->Calls prog 132 #[.agg #[.bool false,.slice a (len dP) c],.agg #[.bool false,.slice b (len dQ) d]] V (eJ s2 n2 V)) (hM: ∀V a c b d,Raw V a (len n1) c n1->Raw V b (len n2) d n2->Calls prog 37 #[.agg #[.bool s1,.slice a (len n1) c],.agg #[.bool s2,.slice b (len n2) d]] V (dG sR nR dR V)):
 Calls prog 58 #[.agg #[.bool s,.slice a k c,.slice b j d],.agg #[.bool s',.slice a' k' c',.slice b' j' d']] w (dG sR nR dR w):=by
 have HN:=af hN;have Uf:=af Ki;have HD:=af hD;have TY:=af E9;have HX:=af hX;have HY:=af hY;have HM:=af hM;clear hN Ki hD E9 hX hY hM
 have SU:=Tryz.rat_num;have SS:=Tryz.rat_den;go_enter func58,ntmps58
 go_wp2_with fail
 obtain ⟨W,hW,x0,Z0,A0,A1,A2⟩:=et w 63 [.bool s,.slice a k c,.slice b j d] 63 [.bool s',.slice a' k' c',.slice b' j' d'] 63 [.bool false,.slice none 0 0,.slice none 0 0];rw [<-hW];clear hW;obtain ⟨z0,z1,z2,⟨aD,aF,bn,aM,aN,bG⟩,⟨aJ,aK,bM,aR,aS,bT⟩,aZ,a_,bW,bA,bB,cf⟩:=bb3 aA aA aA A0 A1 A2 ah;have FB:True:=trivial;have SY:True:=trivial;have XL:True:=trivial
 go_region_held3 (λw'=>w'.cell? ⟨w.heap.size,0,none⟩=some (.bool s)/\w'.cell? ⟨w.heap.size,1,none⟩=some (.slice a k c)/\w'.cell? ⟨w.heap.size,2,none⟩=some (.slice b j d)/\w'.cell? ⟨w.heap.size+1,0,none⟩=some (.bool s')/\w'.cell? ⟨w.heap.size+1,1,none⟩=some (.slice a' k' c')/\w'.cell? ⟨w.heap.size+1,2,none⟩=some (.slice b' j' d')) (first|exact ⟨aD,aF,bn,aJ,aK,bM⟩|(simp [go_sem,aD,aF,bn,aJ,aK,bM])) (first
  |(go_at_call 51;have _t:=FB;refine (HN.o _ (by exact x0.trans (ah.drew))).mono ?_;rintro e w1 ⟨a1,c1,b1,d1,rfl,r1,f1,q1,g1,x1⟩;clear FB _t;obtain ⟨z0,z1,z2,⟨aD,aF,bn,aM,aN,bG⟩,⟨aJ,aK,bM,aR,aS,bT⟩,aZ,a_,bW,bA,bB,cf⟩:=bb3 aA aA aA A0 A1 A2 ((ah.drew).trans x1))
  |(go_at_call 51;refine (Uf.o _ (by exact x0.trans ((ah.drew).trans x1))).mono ?_;rintro e w2 ⟨a2,c2,b2,d2,rfl,r2,f2,q2,g2,x2⟩;obtain ⟨z0,z1,z2,⟨aD,aF,bn,aM,aN,bG⟩,⟨aJ,aK,bM,aR,aS,bT⟩,aZ,a_,bW,bA,bB,cf⟩:=bb3 aA aA aA A0 A1 A2 (((ah.drew).trans x1).trans x2))
  |(go_at_call 132;have _t:=SY;refine (HX.o _ _ _ _ _ (r1.ext x2) r2).mono ?_;rintro e w3 ⟨a3,c3,rfl,r3,f3,x3⟩;clear SY _t;obtain ⟨z0,z1,z2,⟨aD,aF,bn,aM,aN,bG⟩,⟨aJ,aK,bM,aR,aS,bT⟩,aZ,a_,bW,bA,bB,cf⟩:=bb3 aA aA aA A0 A1 A2 ((((ah.drew).trans x1).trans x2).trans x3))
  |(go_at_call 130;have _t:=XL;refine (HD.o _ (by exact x0.trans ((((ah.drew).trans x1).trans x2).trans x3))).mono ?_;rintro e w4 ⟨a4,c4,rfl,r4,f4,x4⟩;clear XL _t;obtain ⟨z0,z1,z2,⟨aD,aF,bn,aM,aN,bG⟩,⟨aJ,aK,bM,aR,aS,bT⟩,aZ,a_,bW,bA,bB,cf⟩:=bb3 aA aA aA A0 A1 A2 (((((ah.drew).trans x1).trans x2).trans x3).trans x4))
  |(go_at_call 130;refine (TY.o _ (by exact x0.trans (((((ah.drew).trans x1).trans x2).trans x3).trans x4))).mono ?_;rintro e w5 ⟨a5,c5,rfl,r5,f5,x5⟩;obtain ⟨z0,z1,z2,⟨aD,aF,bn,aM,aN,bG⟩,⟨aJ,aK,bM,aR,aS,bT⟩,aZ,a_,bW,bA,bB,cf⟩:=bb3 aA aA aA A0 A1 A2 ((((((ah.drew).trans x1).trans x2).trans x3).trans x4).trans x5))
  |(go_at_call 132;refine (HY.o _ _ _ _ _ (r4.ext x5) r5).mono ?_;rintro e w6 ⟨a6,c6,rfl,r6,f6,x6⟩;obtain ⟨z0,z1,z2,⟨aD,aF,bn,aM,aN,bG⟩,⟨aJ,aK,bM,aR,aS,bT⟩,aZ,a_,bW,bA,bB,cf⟩:=bb3 aA aA aA A0 A1 A2 (((((((ah.drew).trans x1).trans x2).trans x3).trans x4).trans x5).trans x6))
  |(go_at_call 37;refine (HM.o _ _ _ _ _ (((r3.ext x4).ext x5).ext x6) r6).mono ?_;intro e w7 kd;obtain ⟨a7,c7,b7,d7,rfl,r7,f7,q7,g7,x7⟩:=id kd;obtain ⟨z0,z1,z2,⟨aD,aF,bn,aM,aN,bG⟩,⟨aJ,aK,bM,aR,aS,bT⟩,aZ,a_,bW,bA,bB,cf⟩:=bb3 aA aA aA A0 A1 A2 ((((((((ah.drew).trans x1).trans x2).trans x3).trans x4).trans x5).trans x6).trans x7)))
 go_wp2
 exact bodyPost_ret (by simp [results,results58,go_sem,aZ,a_,bW]) rfl (dG.bH (kd.base (((((x1.trans x2).trans x3).trans x4).trans x5).trans x6)) x0.drew (Touch.three _ ae (by rw [World.drew,Z0.o];omega) _ _ _))
theorem FC (w:World) (s:Bool) (a b:Option Addr) (k c j d:Nat) (s':Bool) (a' b':Option Addr) (k' c' j' d':Nat) (sP sQ s1 s2 sR:Bool) (nP dP nQ dQ n1 n2 nR dR:Nat) (z:Int) (hz:(z==0)=false) (hS: ∀V,Ext w V->Calls prog 21 #[.agg #[.bool s',.slice a' k' c',.slice b' j' d']] V λe w'=>e= .returned (.int .i64 z)/\Ext V w') (hN: ∀V,Ext w V->Calls prog 51 #[.agg #[.bool s,.slice a k c,.slice b j d]] V (dG sP nP dP V)) (Ki: ∀V,Ext w V->Calls prog 51 #[.agg #[.bool s',.slice a' k' c',.slice b' j' d']] V (dG sQ nQ dQ V)) (hD: ∀V,Ext w V->Calls prog 130 #[.agg #[.bool s,.slice a k c,.slice b j d]] V (eJ false dP V)) (E9: ∀V,Ext w V->Calls prog 130 #[.agg #[.bool s',.slice a' k' c',.slice b' j' d']] V (eJ false dQ V)) (hX: ∀V a c b d,Raw V a (len nP) c nP->Raw V b (len dQ) d dQ->Calls prog 132 #[.agg #[.bool sP,.slice a (len nP) c],.agg #[.bool false,.slice b (len dQ) d]] V (eJ s1 n1 V)) (hY: ∀V a c b d,Raw V a (len dP) c dP->Raw V b (len nQ) d nQ->Calls prog 132 #[.agg #[.bool false,.slice a (len dP) c],.agg #[.bool sQ,.slice b (len nQ) d]] V (eJ s2 n2 V)) (hM: ∀V a c b d,Raw V a (len n1) c n1->Raw V b (len n2) d n2->Calls prog 37 #[.agg #[.bool s1,.slice a (len n1) c],.agg #[.bool s2,.slice b (len n2) d]] V (dG sR nR dR V)):
 Calls prog 152 #[.agg #[.bool s,.slice a k c,.slice b j d],.agg #[.bool s',.slice a' k' c',.slice b' j' d']] w (yD sR nR dR w):=by
 have HS:=af hS;have HN:=af hN;have Uf:=af Ki;have HD:=af hD;have TY:=af E9;have HX:=af hX;have HY:=af hY;have HM:=af hM;clear hS hN Ki hD E9 hX hY hM
 have SU:=Tryz.rat_num;have SS:=Tryz.rat_den;go_enter func152,ntmps152
 go_wp2_with fail
 obtain ⟨W,hW,x0,Z0,A0,A1,A2⟩:=et w 63 [.bool s,.slice a k c,.slice b j d] 63 [.bool s',.slice a' k' c',.slice b' j' d'] 63 [.bool false,.slice none 0 0,.slice none 0 0];rw [<-hW];clear hW;obtain ⟨z0,z1,z2,⟨aD,aF,bn,aM,aN,bG⟩,⟨aJ,aK,bM,aR,aS,bT⟩,aZ,a_,bW,bA,bB,cf⟩:=bb3 aA aA aA A0 A1 A2 ah;refine (HS.o _ x0).mono ?_;rintro e v1 ⟨rfl,y1⟩;obtain ⟨z0,z1,z2,⟨aD,aF,bn,aM,aN,bG⟩,⟨aJ,aK,bM,aR,aS,bT⟩,aZ,a_,bW,bA,bB,cf⟩:=bb3 aA aA aA A0 A1 A2 y1;go_wp2_with fail
 have FB:True:=trivial;have tk2:True:=trivial;have SY:True:=trivial
 go_region_held3 (λw'=>w'.cell? ⟨w.heap.size,0,none⟩=some (.bool s)/\w'.cell? ⟨w.heap.size,1,none⟩=some (.slice a k c)/\w'.cell? ⟨w.heap.size,2,none⟩=some (.slice b j d)/\w'.cell? ⟨w.heap.size+1,0,none⟩=some (.bool s')/\w'.cell? ⟨w.heap.size+1,1,none⟩=some (.slice a' k' c')/\w'.cell? ⟨w.heap.size+1,2,none⟩=some (.slice b' j' d')) (first|exact ⟨aD,aF,bn,aJ,aK,bM⟩|(simp [go_sem,aD,aF,bn,aJ,aK,bM])) (first
  |(go_at_call 51;have _t:=FB;refine (HN.o _ (by exact x0.trans (y1.drew))).mono ?_;rintro e w1 ⟨a1,c1,b1,d1,rfl,r1,f1,q1,g1,x1⟩;clear FB _t;obtain ⟨z0,z1,z2,⟨aD,aF,bn,aM,aN,bG⟩,⟨aJ,aK,bM,aR,aS,bT⟩,aZ,a_,bW,bA,bB,cf⟩:=bb3 aA aA aA A0 A1 A2 ((y1.drew).trans x1))
  |(go_at_call 130;have _t:=tk2;refine (TY.o _ (by exact x0.trans ((y1.drew).trans x1))).mono ?_;rintro e w2 ⟨a2,c2,rfl,r2,f2,x2⟩;clear tk2 _t;obtain ⟨z0,z1,z2,⟨aD,aF,bn,aM,aN,bG⟩,⟨aJ,aK,bM,aR,aS,bT⟩,aZ,a_,bW,bA,bB,cf⟩:=bb3 aA aA aA A0 A1 A2 (((y1.drew).trans x1).trans x2))
  |(go_at_call 132;have _t:=SY;refine (HX.o _ _ _ _ _ (r1.ext x2) r2).mono ?_;rintro e w3 ⟨a3,c3,rfl,r3,f3,x3⟩;clear SY _t;obtain ⟨z0,z1,z2,⟨aD,aF,bn,aM,aN,bG⟩,⟨aJ,aK,bM,aR,aS,bT⟩,aZ,a_,bW,bA,bB,cf⟩:=bb3 aA aA aA A0 A1 A2 ((((y1.drew).trans x1).trans x2).trans x3))
  |(go_at_call 130;refine (HD.o _ (by exact x0.trans ((((y1.drew).trans x1).trans x2).trans x3))).mono ?_;rintro e w4 ⟨a4,c4,rfl,r4,f4,x4⟩;obtain ⟨z0,z1,z2,⟨aD,aF,bn,aM,aN,bG⟩,⟨aJ,aK,bM,aR,aS,bT⟩,aZ,a_,bW,bA,bB,cf⟩:=bb3 aA aA aA A0 A1 A2 (((((y1.drew).trans x1).trans x2).trans x3).trans x4))
  |(go_at_call 51;refine (Uf.o _ (by exact x0.trans (((((y1.drew).trans x1).trans x2).trans x3).trans x4))).mono ?_;rintro e w5 ⟨a5,c5,b5,d5,rfl,r5,f5,q5,g5,x5⟩;obtain ⟨z0,z1,z2,⟨aD,aF,bn,aM,aN,bG⟩,⟨aJ,aK,bM,aR,aS,bT⟩,aZ,a_,bW,bA,bB,cf⟩:=bb3 aA aA aA A0 A1 A2 ((((((y1.drew).trans x1).trans x2).trans x3).trans x4).trans x5))
  |(go_at_call 132;refine (HY.o _ _ _ _ _ (r4.ext x5) r5).mono ?_;rintro e w6 ⟨a6,c6,rfl,r6,f6,x6⟩;obtain ⟨z0,z1,z2,⟨aD,aF,bn,aM,aN,bG⟩,⟨aJ,aK,bM,aR,aS,bT⟩,aZ,a_,bW,bA,bB,cf⟩:=bb3 aA aA aA A0 A1 A2 (((((((y1.drew).trans x1).trans x2).trans x3).trans x4).trans x5).trans x6))
  |(go_at_call 37;refine (HM.o _ _ _ _ _ (((r3.ext x4).ext x5).ext x6) r6).mono ?_;intro e w7 kd;obtain ⟨a7,c7,b7,d7,rfl,r7,f7,q7,g7,x7⟩:=id kd;obtain ⟨z0,z1,z2,⟨aD,aF,bn,aM,aN,bG⟩,⟨aJ,aK,bM,aR,aS,bT⟩,aZ,a_,bW,bA,bB,cf⟩:=bb3 aA aA aA A0 A1 A2 ((((((((y1.drew).trans x1).trans x2).trans x3).trans x4).trans x5).trans x6).trans x7)))
 go_wp2
 exact bodyPost_ret (v:= .tuple #[.agg #[.bool sR,.slice a7 (len nR) c7,.slice b7 (len dR) d7],.bool true]) (by simp [results,results152,go_sem,aZ,a_,bW]) rfl (dG.ok ((kd.base (((((x1.trans x2).trans x3).trans x4).trans x5).trans x6)).Oi x0 y1.drew (Touch.three _ ae (by rw [Z0.o];omega) _ _ _)))
