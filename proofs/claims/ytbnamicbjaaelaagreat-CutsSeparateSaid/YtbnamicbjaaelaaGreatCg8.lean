/- Texts of the proof. -/
import Derived.Test.YtbnamicbjaaelaaGreatCg7
set_option linter.all false
set_option maxHeartbeats 20000000
set_option maxRecDepth 100000
namespace Go.Proofs.YtbnamicbjaaelaaGreat
open Go.Proofs.Tryz
open Go.RowKit
theorem lT.of4 {w W w4 w5:World} {a a':Option Addr} {c c':Nat} {x y:Int} (h:Raw w4 a (len x.natAbs) c x.natAbs) (h':Raw w4 a' (len y.natAbs) c' y.natAbs) (hf:Fr W.heap.size a) (hf':Fr W.heap.size a') (hW:Ext w W) (h2:Ext w w4)
 (t:Touch w.heap.size W.heap.size w4 w5):lT x y w (.returned (.tuple #[.agg #[.bool (decide (x<0)),.slice a (len x.natAbs) c],.agg #[.bool (decide (y<0)),.slice a' (len y.natAbs) c'],.bool true])) w5:=
 ⟨a,c,a',c',rfl,h.bt t hf.o,hf.mono hW.size,h'.bt t hf'.o,hf'.mono hW.size,h2.rI t⟩
theorem aT.AV {w:World} {b:Nat} {T:TypeId} {x y:Value} (h:aT w b T [x,y]) (u v:Value):aT ((w.setCell ⟨b,0,none⟩ u).setCell ⟨b,1,none⟩ v) b T [u,v]:=(h.set 0 u).set 1 v
theorem aT.jK {w:World} {b b':Nat} {T:TypeId} {vs:List Value} (h:aT w b T vs) (u v:Value) (hb:b'≠b):aT ((w.setCell ⟨b',0,none⟩ u).setCell ⟨b',1,none⟩ v) b T vs:=(h.other _ _ hb).other _ _ hb
theorem rL (w:World) (s:Bool) (a:Option Addr) (k c n:Nat) (h:Raw w a k c n):
 Calls prog 94 #[.agg #[.bool s,.slice a k c]] w λe w'=>e= .returned (.int .i64 (bp s n).sign)/\Ext w w':=by
 have hN:=λV (hV:Ext w V)=>rK V s a k c n (h.ext hV);generalize bp s n=z at hN⊢;have HN:=ah hN;clear hN
 go_enter func94,ntmps94
 go_wp2_with fail
 obtain ⟨W,hW,x0,Z0,A0⟩:=aV w 90 [.bool s,.slice a k c];rw [<-hW];clear hW;have aM:=aH A0 ar;have z0:=(A0.ext ar).lt;refine (HN.o _ x0).mono ?_;rintro e w1 ⟨a1,c1,rfl,hr1,jI,hx1⟩;have aM:=aH A0 hx1;have z0:=(A0.ext hx1).lt;have fin: ∀v0 v1,Ext w ((w1.setCell ⟨w.heap.size,0,none⟩ v0).setCell ⟨w.heap.size,1,none⟩ v1):=λv0 v1=>x0.bt hx1 (Touch.two _ bY (by rw [Z0.o];omega) _ _);have Q8:=ah fin;clear fin
 have lz:=hr1.le;rcases Int.lt_trichotomy z 0 with hz|hz|hz
 .have hs:=Int.sign_eq_neg_one_of_neg hz
  have HS:=ah hs;clear hs
  rw [decide_eq_true hz];go_wp2
  go_ret;exact ⟨cL HS.o.symm,Q8.o _ _⟩
 .subst hz
  have hd:decide ((0:Int)<0)=false:=rfl;have hl:len (Int.natAbs 0)=0:=rfl;rw [hd,hl];go_wp2
  go_ret;exact ⟨rfl,Q8.o _ _⟩
 .have hs:=Int.sign_eq_one_of_pos hz
  have HS:=ah hs;clear hs
  have hp:=gM.2 (show 0<z.natAbs by omega);have hb:(((len z.natAbs:Nat):Int)==0)=false:=by rw [beq_eq_false_iff_ne];omega
  rw [decide_eq_false (show¬z<0 by omega)];go_wp2
  go_ret;exact ⟨cL HS.o.symm,Q8.o _ _⟩
theorem zy (w:World) (s t:Bool) (a b:Option Addr) (k c k' c' n m:Nat) (h:Raw w a k c n) (h':Raw w b k' c' m) (hm:0<m) (b1:k<900000000) (b2:k'<900000000):
 Calls prog 139 #[.agg #[.bool s,.slice a k c],.agg #[.bool t,.slice b k' c']] w (lT (bp s n/bp t m) (bp s n % bp t m) w):=by
 have js:=λV a' c' (hV:Raw V a' (len (n/m)) c' (n/m))=>jb V (s !=t) a' _ c' _ hV;have Nk:=λV a' c' (hV:Raw V a' (len (n % m)) c' (n % m))=>jb V s a' _ c' _ hV;obtain ⟨Q,hQ⟩: ∃Q,Q=bp (s !=t) (n/m):=⟨_,rfl⟩;obtain ⟨R,hR⟩: ∃R,R=bp s (n % m):=⟨_,rfl⟩;rw [<-hQ]at js;rw [<-hR]at Nk;have nX:=ah js;have pY:=ah Nk;have HQ:=ah hQ;have HR:=ah hR;clear js Nk hQ hR
 go_enter func139,ntmps139
 go_wp2_with fail
 obtain ⟨W,hW,x0,Z0,A0,A1,A2,A3⟩:=QB w 90 [.bool s,.slice a k c] 90 [.bool t,.slice b k' c'] 90 [.bool false,.slice none 0 0] 90 [.bool false,.slice none 0 0];rw [<-hW];clear hW;obtain ⟨aM,bg,bL,bM⟩:=aH A0 ar;have z0:=(A0.ext ar).lt;obtain ⟨aU,bq,cA,cC⟩:=aH A1 ar;have z1:=(A1.ext ar).lt;obtain ⟨bK,cD,cT,cU⟩:=aH A2 ar;have z2:=(A2.ext ar).lt;obtain ⟨ot,ov,qs,qu⟩:=aH A3 ar;have z3:=(A3.ext ar).lt;refine (zx _ _ _ _ _ _ _ _ _ (h.ext x0) (h'.ext x0) hm b1 b2).mono ?_;rintro e w1 ⟨a1,c1,a2,c2,rfl,hr1,jI,hr2,hf2,hx1⟩;obtain ⟨aM,bg,bL,bM⟩:=aH A0 hx1;have z0:=(A0.ext hx1).lt;obtain ⟨aU,bq,cA,cC⟩:=aH A1 hx1;have z1:=(A1.ext hx1).lt;obtain ⟨bK,cD,cT,cU⟩:=aH A2 hx1;have z2:=(A2.ext hx1).lt;obtain ⟨ot,ov,qs,qu⟩:=aH A3 hx1;have z3:=(A3.ext hx1).lt;have fT:True:=trivial;go_wp2_with fail
 go_region_held3 (λw'=>w'.cell? ⟨w.heap.size,0,none⟩=some (.bool s)/\w'.cell? ⟨w.heap.size,1,none⟩=some (.slice a k c)/\w'.cell? ⟨w.heap.size+1,0,none⟩=some (.bool t)/\w'.cell? ⟨w.heap.size+1,1,none⟩=some (.slice b k' c')) (first|exact ⟨aM,bg,aU,bq⟩|(simp [go_sem,aM,bg,aU,bq])) (first
  |(go_at_call 141;have _t:=fT;refine (nX.o _ _ _ (hr1.ext (by exact ar.drew))).mono ?_;rintro e w2 ⟨a3,c3,rfl,hr3,hf3,hx2⟩;clear fT _t;obtain ⟨aM,bg,bL,bM⟩:=aH A0 (hx1.drew.trans hx2);have z0:=(A0.ext (hx1.drew.trans hx2)).lt;obtain ⟨aU,bq,cA,cC⟩:=aH A1 (hx1.drew.trans hx2);have z1:=(A1.ext (hx1.drew.trans hx2)).lt;obtain ⟨bK,cD,cT,cU⟩:=aH A2 (hx1.drew.trans hx2);have z2:=(A2.ext (hx1.drew.trans hx2)).lt;obtain ⟨ot,ov,qs,qu⟩:=aH A3 (hx1.drew.trans hx2);have z3:=(A3.ext (hx1.drew.trans hx2)).lt)
  |(go_at_call 141;refine (pY.o _ _ _ ((hr2.ext (by exact ar.drew)).ext hx2)).mono ?_;rintro e w3 ⟨a4,c4,rfl,hr4,PE,hx3⟩;obtain ⟨aM,bg,bL,bM⟩:=aH A0 ((hx1.drew.trans hx2).trans hx3);have z0:=(A0.ext ((hx1.drew.trans hx2).trans hx3)).lt;obtain ⟨aU,bq,cA,cC⟩:=aH A1 ((hx1.drew.trans hx2).trans hx3);have z1:=(A1.ext ((hx1.drew.trans hx2).trans hx3)).lt;obtain ⟨bK,cD,cT,cU⟩:=aH A2 ((hx1.drew.trans hx2).trans hx3);have z2:=(A2.ext ((hx1.drew.trans hx2).trans hx3)).lt;obtain ⟨ot,ov,qs,qu⟩:=aH A3 ((hx1.drew.trans hx2).trans hx3);have z3:=(A3.ext ((hx1.drew.trans hx2).trans hx3)).lt))
 go_upto_region 5 with fail
 have xx:Ext W w3:=(hx1.drew.trans hx2).trans hx3;have tt:Touch w.heap.size W.heap.size w3 ((((w3.setCell ⟨w.heap.size+1+1,0,none⟩ (.bool (decide (Q<0)))).setCell ⟨w.heap.size+1+1,1,none⟩ (.slice a3 (len Q.natAbs) c3)).setCell ⟨w.heap.size+1+1+1,0,none⟩ (.bool (decide (R<0)))).setCell ⟨w.heap.size+1+1+1,1,none⟩ (.slice a4 (len R.natAbs) c4)):=(Touch.two _ ae (by rw [Z0.o];omega) _ _).trans (Touch.two _ ae (by rw [Z0.o];omega) _ _);have D0:aT ((((w3.setCell ⟨w.heap.size+1+1,0,none⟩ (.bool (decide (Q<0)))).setCell ⟨w.heap.size+1+1,1,none⟩ (.slice a3 (len Q.natAbs) c3)).setCell ⟨w.heap.size+1+1+1,0,none⟩ (.bool (decide (R<0)))).setCell ⟨w.heap.size+1+1+1,1,none⟩ (.slice a4 (len R.natAbs) c4)) w.heap.size 90 [.bool s,.slice a k c]:=((A0.ext xx).jK _ _ ae).jK _ _ ae;have D1:aT ((((w3.setCell ⟨w.heap.size+1+1,0,none⟩ (.bool (decide (Q<0)))).setCell ⟨w.heap.size+1+1,1,none⟩ (.slice a3 (len Q.natAbs) c3)).setCell ⟨w.heap.size+1+1+1,0,none⟩ (.bool (decide (R<0)))).setCell ⟨w.heap.size+1+1+1,1,none⟩ (.slice a4 (len R.natAbs) c4)) (w.heap.size+1) 90 [.bool t,.slice b k' c']:=((A1.ext xx).jK _ _ ae).jK _ _ ae;have D2:aT ((((w3.setCell ⟨w.heap.size+1+1,0,none⟩ (.bool (decide (Q<0)))).setCell ⟨w.heap.size+1+1,1,none⟩ (.slice a3 (len Q.natAbs) c3)).setCell ⟨w.heap.size+1+1+1,0,none⟩ (.bool (decide (R<0)))).setCell ⟨w.heap.size+1+1+1,1,none⟩ (.slice a4 (len R.natAbs) c4)) (w.heap.size+2) 90 [.bool (decide (Q<0)),.slice a3 (len Q.natAbs) c3]:=((A2.ext xx).AV _ _).jK _ _ ae;have D3:aT ((((w3.setCell ⟨w.heap.size+1+1,0,none⟩ (.bool (decide (Q<0)))).setCell ⟨w.heap.size+1+1,1,none⟩ (.slice a3 (len Q.natAbs) c3)).setCell ⟨w.heap.size+1+1+1,0,none⟩ (.bool (decide (R<0)))).setCell ⟨w.heap.size+1+1+1,1,none⟩ (.slice a4 (len R.natAbs) c4)) (w.heap.size+3) 90 [.bool (decide (R<0)),.slice a4 (len R.natAbs) c4]:=((A3.ext xx).jK _ _ ae).AV _ _;have e4:=x0.bt xx tt;have f3:=hf3.mono (hx1.drew).size;have f4:=PE.mono ((hx1.drew).trans hx2).size;have r3:=(hr3.ext hx3).bt tt (Fr.o f3);have r4:=hr4.bt tt (Fr.o f4);have zw:=tt.size;generalize ((((w3.setCell ⟨w.heap.size+1+1,0,none⟩ (.bool (decide (Q<0)))).setCell ⟨w.heap.size+1+1,1,none⟩ (.slice a3 (len Q.natAbs) c3)).setCell ⟨w.heap.size+1+1+1,0,none⟩ (.bool (decide (R<0)))).setCell ⟨w.heap.size+1+1+1,1,none⟩ (.slice a4 (len R.natAbs) c4))=w4 at*;clear tt hr3 hr4 hf3 PE hr1 hr2 jI hf2 nX pY aM bg bL bM aU bq cA cC bK cD cT cU ot ov qs qu A0 A1 A2 A3;have F3:Fr w.heap.size a3:=f3.mono x0.size;have F4:Fr w.heap.size a4:=f4.mono x0.size;obtain ⟨aM,bg,bL,bM⟩:=aH D0 ar;obtain ⟨aU,bq,cA,cC⟩:=aH D1 ar;obtain ⟨bK,cD,cT,cU⟩:=aH D2 ar;obtain ⟨ot,ov,qs,qu⟩:=aH D3 ar;have zW:=Z0.o;have HZW:=ah zW;by_cases Tg:R<0
 .have hs1:s=true:=by
   cases s with
   |true=>rfl
   |false=>rw [HR.o,ep]at Tg;omega
  subst hs1;have zA:0<n % m:=by rw [HR.o,gW]at Tg;omega
  obtain ⟨q1,q2⟩:=yF (t:=t) hm zA;obtain ⟨M,hM⟩: ∃M:Int,M=(m:Int):=⟨_,rfl⟩;obtain ⟨R2,yK⟩: ∃R2:Int,R2=R+M:=⟨_,rfl⟩
  have UK:bp true n % bp t m=R2:=by
   have:=Nat.mod_lt n hm;rw [q2,yK,HR.o,hM,gW];omega
  have UL:decide (R2<0)=false:=decide_eq_false (by have:=Nat.mod_lt n hm;rw [yK,HR.o,hM,gW];omega)
  have hA: ∀V,Ext w V->Calls prog 164 #[.agg #[.bool t,.slice b k' c']] V (bB M V):=by
   intro V hV;rw [hM];exact Rg V t b k' c' m (h'.ext hV)
  have UM:R.natAbs=n % m:=by rw [HR.o,bF]
  have hlr:len R.natAbs<900000000:=by
   have e1:=df (Nat.le_of_lt (Nat.mod_lt n hm));have e2:=h'.cI;rw [UM];omega
  have hlM:len M.natAbs<900000000:=by
   have e2:=h'.cI;rw [hM,Int.natAbs_natCast];omega
  have hS: ∀V a' c',Ext w4 V->Raw V a' (len M.natAbs) c' M.natAbs->Calls prog 155 #[.agg #[.bool true,.slice a4 (len R.natAbs) c4],.agg #[.bool (decide (M<0)),.slice a' (len M.natAbs) c']] V (bB R2 V):=by
   intro V a' c' hV UN;have:=Bh V true (decide (M<0)) a4 a' _ c4 _ c' _ _ (r4.ext hV) UN ae ae;rw [fc]at this;rw [yK];rw [show bp true R.natAbs=R from by rw [<-decide_eq_true Tg];exact fc R]at this;exact this
  have hlQ:len Q.natAbs<900000000:=by
   have e1:Q.natAbs=n/m:=by rw [HQ.o,bF]
   have e2:=df (Nat.div_le_self n m);have e3:=h.cI;rw [e1];omega
  obtain ⟨ONE,Rj⟩: ∃O:Int,O=1:=⟨_,rfl⟩
  have hO: ∀V,Calls prog 82 #[.int .i64 1] V (bB ONE V):=by
   intro V;rw [Rj];exact k9 V 1 aq aq
  have HA:=ah hA;have HS:=ah hS;have HO:=ah hO
  have nk:=ah UK;have ahc:=ah UL;have yM:=ah Rj;have nX:=ah q1
  clear hA hS hO q1 q2 yK UK UL hM UM Rj zA;rw [decide_eq_true Tg]at*;go_upto_region 6 with fail
  go_cut [] (λwx=> ∃a6 c6,aT wx w.heap.size 90 [.bool true,.slice a k c]/\aT wx (w.heap.size+1) 90 [.bool t,.slice b k' c']/\aT wx (w.heap.size+2) 90 [.bool (decide (Q<0)),.slice a3 (len Q.natAbs) c3]/\aT wx (w.heap.size+3) 90 [.bool (decide (R2<0)),.slice a6 (len R2.natAbs) c6]/\Raw wx a6 (len R2.natAbs) c6 R2.natAbs/\Raw wx a3 (len Q.natAbs) c3 Q.natAbs/\Fr W.heap.size a6/\Ext w wx/\W.heap.size<=wx.heap.size)
  case first=>
   go_region_with (first
    |(go_at_call 164;refine (HA.o _ (by exact e4.drew)).mono ?_;rintro e w5 ⟨a5,c5,rfl,QU,QO,eP⟩;obtain ⟨aM,bg,bL,bM⟩:=aH D0 (ar.drew.trans eP);obtain ⟨aU,bq,cA,cC⟩:=aH D1 (ar.drew.trans eP);obtain ⟨bK,cD,cT,cU⟩:=aH D2 (ar.drew.trans eP);obtain ⟨ot,ov,qs,qu⟩:=aH D3 (ar.drew.trans eP))
    |(go_at_call 155;refine (HS.o _ _ _ (by exact ar.drew.trans eP) QU).mono ?_;rintro e w6 ⟨a6,c6,rfl,Tb,Uj,jA⟩;obtain ⟨aM,bg,bL,bM⟩:=aH D0 ((ar.drew.trans eP).trans jA);obtain ⟨aU,bq,cA,cC⟩:=aH D1 ((ar.drew.trans eP).trans jA);obtain ⟨bK,cD,cT,cU⟩:=aH D2 ((ar.drew.trans eP).trans jA);obtain ⟨ot,ov,qs,qu⟩:=aH D3 ((ar.drew.trans eP).trans jA)))
   all_goals go_wp2_with fail
   all_goals go_meet
   all_goals have Rk:Ext w4 w6:=(ar.drew.trans eP).trans jA
   all_goals have zz6:W.heap.size<=w4.heap.size:=by rw [zw];exact xx.size
   all_goals have f6:Fr W.heap.size a6:=Uj.mono (Nat.le_trans zz6 (Nat.le_trans ar.drew.size eP.size))
   all_goals have t6:=Touch.two (lo:=w.heap.size) (hi:=W.heap.size) (b:=w.heap.size+3) w6 ae ae (.bool (decide (R2<0))) (.slice a6 (len R2.natAbs) c6)
   all_goals exact ⟨a6,c6,(D0.ext Rk).jK _ _ ae,(D1.ext Rk).jK _ _ ae,(D2.ext Rk).jK _ _ ae,(D3.ext Rk).AV _ _,Tb.bt t6 (Fr.o f6),(r3.ext Rk).bt t6 (Fr.o f3),f6,(e4.trans Rk).rI t6,by rw [t6.size];exact Nat.le_trans zz6 Rk.size⟩
  case rest=>
   obtain ⟨a6,c6,E0,E1,E2,E3,r67,r37,f67,e7,zw7⟩:=hcut;obtain ⟨w7,rfl⟩: ∃w7:World,w7=wc:=⟨_,rfl⟩;clear D0 D1 D2 D3 aM bg bL bM aU bq cA cC bK cD cT cU ot ov qs qu r3 r4 HS HA;obtain ⟨aM,bg,bL,bM⟩:=aH E0 ar;obtain ⟨aU,bq,cA,cC⟩:=aH E1 ar;obtain ⟨bK,cD,cT,cU⟩:=aH E2 ar;obtain ⟨ot,ov,qs,qu⟩:=aH E3 ar
   cases t with
   |true=>
    obtain ⟨Q2,Rl⟩: ∃Q2:Int,Q2=Q+ONE:=⟨_,rfl⟩
    have UO: ∀V a' c',Ext w7 V->Raw V a' (len ONE.natAbs) c' ONE.natAbs->Calls prog 155 #[.agg #[.bool (decide (Q<0)),.slice a3 (len Q.natAbs) c3],.agg #[.bool (decide (ONE<0)),.slice a' (len ONE.natAbs) c']] V (bB Q2 V):=by
     intro V a' c' hV UN;have:=Bh V (decide (Q<0)) (decide (ONE<0)) a3 a' _ c3 _ c' _ _ (r37.ext hV) UN ae (by rw [yM.o];decide);rw [fc,fc]at this;rw [Rl];exact this
    have UQ:bp true n/bp true m=Q2:=by
     rw [nX.o,Rl,HQ.o,yM.o];simp [bp]
    have vt:=ah UO;have PJ:=ah UQ
    clear UO UQ Rl;go_wp2_with fail
    go_region_with (first
     |(go_at_call 82;refine (HO.o _).mono ?_;rintro e w8 ⟨a8,c8,rfl,KR,Td,iu⟩;obtain ⟨aM,bg,bL,bM⟩:=aH E0 (ar.drew.trans iu);obtain ⟨aU,bq,cA,cC⟩:=aH E1 (ar.drew.trans iu);obtain ⟨bK,cD,cT,cU⟩:=aH E2 (ar.drew.trans iu);obtain ⟨ot,ov,qs,qu⟩:=aH E3 (ar.drew.trans iu))
     |(go_at_call 155;refine (vt.o _ _ _ (by exact ar.drew.trans iu) KR).mono ?_;rintro e w9 ⟨a9,c9,rfl,Uy,Yz,oA⟩;obtain ⟨aM,bg,bL,bM⟩:=aH E0 ((ar.drew.trans iu).trans oA);obtain ⟨aU,bq,cA,cC⟩:=aH E1 ((ar.drew.trans iu).trans oA);obtain ⟨bK,cD,cT,cU⟩:=aH E2 ((ar.drew.trans iu).trans oA);obtain ⟨ot,ov,qs,qu⟩:=aH E3 ((ar.drew.trans iu).trans oA)))
    all_goals have N6:Ext w7 w9:=(ar.drew.trans iu).trans oA
    all_goals have f9:Fr W.heap.size a9:=Yz.mono (Nat.le_trans zw7 (Nat.le_trans ar.drew.size iu.size))
    all_goals go_upto_region 10 with fail
    all_goals have t9:=Touch.two (lo:=w.heap.size) (hi:=W.heap.size) (b:=w.heap.size+2) w9 ae ae (.bool (decide (Q2<0))) (.slice a9 (len Q2.natAbs) c9)
    all_goals have G2:=(E2.ext N6).AV (.bool (decide (Q2<0))) (.slice a9 (len Q2.natAbs) c9)
    all_goals have G3:=(E3.ext N6).jK (b':=w.heap.size+2) (.bool (decide (Q2<0))) (.slice a9 (len Q2.natAbs) c9) ae
    all_goals have UR:=(e7.trans N6).rI t9
    all_goals have r9:=Uy.bt t9 (Fr.o f9)
    all_goals have r6:=(r67.ext N6).bt t9 (Fr.o f67)
    all_goals rw [show w.heap.size+1+1=w.heap.size+2 from rfl]
    all_goals generalize (w9.setCell ⟨w.heap.size+2,0,none⟩ (.bool (decide (Q2<0)))).setCell ⟨w.heap.size+2,1,none⟩ (.slice a9 (len Q2.natAbs) c9)=Ci at*
    all_goals obtain ⟨bK,cD,cT,cU⟩:=aH G2 ar
    all_goals obtain ⟨ot,ov,qs,qu⟩:=aH G3 ar
    all_goals go_wp2_with fail
    all_goals go_region
    all_goals go_wp2_with fail
    all_goals rw [PJ.o,nk.o]
    all_goals exact bodyPost_ret (v:= .tuple #[.agg #[.bool (decide (Q2<0)),.slice a9 (len Q2.natAbs) c9],.agg #[.bool (decide (R2<0)),.slice a6 (len R2.natAbs) c6],.bool true]) (by simp [results,results139,go_sem,bK,cD,ot,ov]) rfl (lT.of4 r9 r6 f9 f67 x0 UR (((Touch.two _ ae ae _ _).trans (Touch.two _ ae ae _ _)).drew))
   |false=>
    obtain ⟨Q2,Rl⟩: ∃Q2:Int,Q2=Q-ONE:=⟨_,rfl⟩
    have UO: ∀V a' c',Ext w7 V->Raw V a' (len ONE.natAbs) c' ONE.natAbs->Calls prog 165 #[.agg #[.bool (decide (Q<0)),.slice a3 (len Q.natAbs) c3],.agg #[.bool (decide (ONE<0)),.slice a' (len ONE.natAbs) c']] V (bB Q2 V):=by
     intro V a' c' hV UN;have:=Ri V (decide (Q<0)) (decide (ONE<0)) a3 a' _ c3 _ c' _ _ (r37.ext hV) UN ae (by rw [yM.o];decide);rw [fc,fc]at this;rw [Rl];exact this
    have UQ:bp true n/bp false m=Q2:=by
     rw [nX.o,Rl,HQ.o,yM.o];simp [bp];omega
    have vt:=ah UO;have PJ:=ah UQ
    clear UO UQ Rl;go_wp2_with fail
    go_region_with (first
     |(go_at_call 82;refine (HO.o _).mono ?_;rintro e w8 ⟨a8,c8,rfl,KR,Td,iu⟩;obtain ⟨aM,bg,bL,bM⟩:=aH E0 (ar.drew.trans iu);obtain ⟨aU,bq,cA,cC⟩:=aH E1 (ar.drew.trans iu);obtain ⟨bK,cD,cT,cU⟩:=aH E2 (ar.drew.trans iu);obtain ⟨ot,ov,qs,qu⟩:=aH E3 (ar.drew.trans iu))
     |(go_at_call 165;refine (vt.o _ _ _ (by exact ar.drew.trans iu) KR).mono ?_;rintro e w9 ⟨a9,c9,rfl,Uy,Yz,oA⟩;obtain ⟨aM,bg,bL,bM⟩:=aH E0 ((ar.drew.trans iu).trans oA);obtain ⟨aU,bq,cA,cC⟩:=aH E1 ((ar.drew.trans iu).trans oA);obtain ⟨bK,cD,cT,cU⟩:=aH E2 ((ar.drew.trans iu).trans oA);obtain ⟨ot,ov,qs,qu⟩:=aH E3 ((ar.drew.trans iu).trans oA)))
    all_goals have N6:Ext w7 w9:=(ar.drew.trans iu).trans oA
    all_goals have f9:Fr W.heap.size a9:=Yz.mono (Nat.le_trans zw7 (Nat.le_trans ar.drew.size iu.size))
    all_goals go_upto_region 10 with fail
    all_goals have t9:=Touch.two (lo:=w.heap.size) (hi:=W.heap.size) (b:=w.heap.size+2) w9 ae ae (.bool (decide (Q2<0))) (.slice a9 (len Q2.natAbs) c9)
    all_goals have G2:=(E2.ext N6).AV (.bool (decide (Q2<0))) (.slice a9 (len Q2.natAbs) c9)
    all_goals have G3:=(E3.ext N6).jK (b':=w.heap.size+2) (.bool (decide (Q2<0))) (.slice a9 (len Q2.natAbs) c9) ae
    all_goals have UR:=(e7.trans N6).rI t9
    all_goals have r9:=Uy.bt t9 (Fr.o f9)
    all_goals have r6:=(r67.ext N6).bt t9 (Fr.o f67)
    all_goals rw [show w.heap.size+1+1=w.heap.size+2 from rfl]
    all_goals generalize (w9.setCell ⟨w.heap.size+2,0,none⟩ (.bool (decide (Q2<0)))).setCell ⟨w.heap.size+2,1,none⟩ (.slice a9 (len Q2.natAbs) c9)=Ci at*
    all_goals obtain ⟨bK,cD,cT,cU⟩:=aH G2 ar
    all_goals obtain ⟨ot,ov,qs,qu⟩:=aH G3 ar
    all_goals go_wp2_with fail
    all_goals go_region
    all_goals go_wp2_with fail
    all_goals rw [PJ.o,nk.o]
    all_goals exact bodyPost_ret (v:= .tuple #[.agg #[.bool (decide (Q2<0)),.slice a9 (len Q2.natAbs) c9],.agg #[.bool (decide (R2<0)),.slice a6 (len R2.natAbs) c6],.bool true]) (by simp [results,results139,go_sem,bK,cD,ot,ov]) rfl (lT.of4 r9 r6 f9 f67 x0 UR (((Touch.two _ ae ae _ _).trans (Touch.two _ ae ae _ _)).drew))
 .have hres:bp s n/bp t m=Q/\bp s n % bp t m=R:=by
   have hc:s=false\/n % m=0:=by
    by_cases KQ:n % m=0
    .exact Or.inr KQ
    .cases s with
     |false=>exact Or.inl rfl
     |true=>exact absurd (by rw [HR.o,gW];omega) Tg
   obtain ⟨q1,q2⟩:=tL (s:=s) (t:=t) hm hc;refine ⟨by rw [q1,HQ.o],?_⟩;rw [q2,HR.o];rcases hc with hc|hc
   .rw [hc,ep]
   .rw [hc,oI];rfl
  have UT:=ah hres;clear hres
  have hdR:0<=R:=ae;rw [decide_eq_false Tg]at*;go_wp2_with fail
  go_region
  all_goals go_wp2_with fail
  all_goals rw [UT.o.1,UT.o.2]
  all_goals exact bodyPost_ret (v:= .tuple #[.agg #[.bool (decide (Q<0)),.slice a3 (len Q.natAbs) c3],.agg #[.bool (decide (R<0)),.slice a4 (len R.natAbs) c4],.bool true]) (by simp [results,results139,go_sem,bK,cD,ot,ov,hdR]) rfl (lT.of4 r3 r4 f3 f4 x0 e4 (((Touch.two _ ae ae _ _).trans (Touch.two _ ae ae _ _)).drew))
theorem IH (w:World):Raw (w.alloc (Obj.cells #[] 142)) (some ⟨w.heap.size,0,none⟩) 0 0 0:=
 ⟨[],rfl,rfl,⟨aZ,ae,aZ,(λe=>by cases e),Small.nil,λ_ h=>by cases h⟩⟩
theorem vS (w:World):Calls prog 97 #[] w (bG 0 w):=by
 have r0:=IH (w.alloc (.cells #[.bool false,.slice (some ⟨w.heap.size+1,0,none⟩) 0 0,.slice (some ⟨w.heap.size+1+1,0,none⟩) 1 1] 92));have r1:=oL ((w.alloc (.cells #[.bool false,.slice (some ⟨w.heap.size+1,0,none⟩) 0 0,.slice (some ⟨w.heap.size+1+1,0,none⟩) 1 1] 92)).alloc (Obj.cells #[] 142));have e0:Ext w (w.alloc (.cells #[.bool false,.slice (some ⟨w.heap.size+1,0,none⟩) 0 0,.slice (some ⟨w.heap.size+1+1,0,none⟩) 1 1] 92)):=ar.alloc _;rw [show(w.alloc (.cells #[.bool false,.slice (some ⟨w.heap.size+1,0,none⟩) 0 0,.slice (some ⟨w.heap.size+1+1,0,none⟩) 1 1] 92)).heap.size=w.heap.size+1 from by simp]at r0;rw [show((w.alloc (.cells #[.bool false,.slice (some ⟨w.heap.size+1,0,none⟩) 0 0,.slice (some ⟨w.heap.size+1+1,0,none⟩) 1 1] 92)).alloc (Obj.cells #[] 142)).heap.size=w.heap.size+1+1 from by simp]at r1;go_enter func97,ntmps97
 go_wp2
 exact bodyPost_ret (v:= .agg #[.bool false,.slice (some ⟨w.heap.size+1,0,none⟩) 0 0,.slice (some ⟨w.heap.size+1+1,0,none⟩) 1 1]) (by simp [results,results97,go_sem]) rfl
  ⟨_,0,_,1,rfl,r0.ext (ar.alloc _),Fr.some ae,r1,Fr.some ae,(e0.alloc _).alloc _⟩
theorem tS (t:Bool) (m:Nat) (hm:0<m):decide (bp t m<0)=t:=by
 rw [rk];simp [hm]
theorem zB {l:List Nat} (hs:Small l) (hl:l.length=len (val l)):l= [1]↔val l=1:=by
 constructor
 .intro h;rw [h];rfl
 .intro h
  have h1:l.length=1:=by rw [hl,h];exact oD
  exact val_inj hs (Small.one aq) (by rw [h1];rfl) (by rw [h];rfl)
theorem CX (s t:Bool) (n m:Nat) (hm:0<m):(mkRat (bp (s !=t) n) m).num.natAbs=n/Nat.gcd n m/\(mkRat (bp (s !=t) n) m).den=m/Nat.gcd n m/\decide ((mkRat (bp (s !=t) n) m).num<0)=decide (bp (s !=t) (n/Nat.gcd n m)<0):=by
 have h1:=gu (bp (s !=t) n) m hm;have h2:=kV (bp (s !=t) n) m hm;have h3:=jV (bp (s !=t) n) m hm;rw [bF,Nat.gcd_comm]at h1 h2;refine ⟨h1,h2,?_⟩;rw [h3,rk,rk];congr 2
 have hg:0<Nat.gcd n m:=Nat.gcd_pos_of_pos_right _ hm;by_cases h:0<n
 .have:0<n/Nat.gcd n m:=Nat.div_pos (Nat.le_of_dvd h (Nat.gcd_dvd_left n m)) hg
  simp [h,this]
 .have:n=0:=ae
  subst this;simp
theorem Bi (w:World) (s t:Bool) (a b:Option Addr) (k c k' c' n m:Nat) (_h:Raw w a k c n) (h':Raw w b k' c' m) (hm:m=0):
 Calls prog 81 #[.agg #[.bool s,.slice a k c],.agg #[.bool t,.slice b k' c']] w (bG (mkRat (bp (s !=t) n) m) w):=by
 rw [hm,Rat.mkRat_zero]
 have hS: ∀V,Ext w V->Calls prog 94 #[.agg #[.bool t,.slice b k' c']] V λe w'=>e= .returned (.int .i64 0)/\Ext V w':=by
  intro V hV;have:=rL V t b k' c' m (h'.ext hV);rw [hm,oI]at this;exact this
 have HS:=ah hS;clear hS
 go_enter func81,ntmps81
 go_wp2_with fail
 obtain ⟨W,hW,x0,Z0,A0,A1,A2⟩:=fC w 90 [.bool s,.slice a k c] 90 [.bool t,.slice b k' c'] 92 [.bool false,.slice none 0 0,.slice none 0 0];rw [<-hW];clear hW;have aM:=aH A0 ar;have z0:=(A0.ext ar).lt;have aU:=aH A1 ar;have z1:=(A1.ext ar).lt;have bK:=aK A2 ar;have z2:=(A2.ext ar).lt;refine (HS.o _ x0).mono ?_;rintro e w1 ⟨rfl,x1⟩;have aM:=aH A0 x1;have z0:=(A0.ext x1).lt;have aU:=aH A1 x1;have z1:=(A1.ext x1).lt;have bK:=aK A2 x1;have z2:=(A2.ext x1).lt;go_wp2_with fail
 refine (vS _).mono ?_;intro e w2 hN;obtain ⟨a2,c2,a3,c3,rfl,r2,f2,r3,f3,x2⟩:=id hN;have aM:=aH A0 (x1.trans x2);have z0:=(A0.ext (x1.trans x2)).lt;have aU:=aH A1 (x1.trans x2);have z1:=(A1.ext (x1.trans x2)).lt;have bK:=aK A2 (x1.trans x2);have z2:=(A2.ext (x1.trans x2)).lt;go_wp2
 exact bodyPost_ret (by simp [results,results81,go_sem, *]) rfl (bG.bt (hN.base x1) x0 (Touch.three _ ae (by rw [Z0.o];omega) _ _ _))
theorem CY (w:World) (s:Bool) (a b:Option Addr) (k c k' c' n:Nat) (h:Raw w a k c n) (h':Raw w b k' c' 1):
 Calls prog 81 #[.agg #[.bool s,.slice a k c],.agg #[.bool false,.slice b k' c']] w (bG (mkRat (bp (s !=false) n) 1) w):=by
 obtain ⟨m,Cg⟩: ∃m:Nat,m=1:=⟨_,rfl⟩;have hm:0<m:=ae;rw [<-Cg]at h';obtain ⟨t,ht⟩: ∃t:Bool,t=false:=⟨_,rfl⟩;rw [<-ht];have hS: ∀V,Ext w V->Calls prog 94 #[.agg #[.bool t,.slice b k' c']] V λe w'=>e= .returned (.int .i64 (bp t m).sign)/\Ext V w':=λV hV=>rL V t b k' c' m (h'.ext hV)
 have N7:((bp t m).sign==0)=false:=by
  rw [beq_eq_false_iff_ne];cases t with
  |true=>rw [gW,Int.sign_eq_neg_one_of_neg ae];decide
  |false=>rw [ep,Int.sign_eq_one_of_pos ae];decide
 generalize (bp t m).sign=sg at hS N7
 have hN: ∀V,Ext w V->Calls prog 136 #[.agg #[.bool t,.slice b k' c']] V λe w'=> ∃a1 c1,e= .returned (.agg #[.bool t,.slice a1 (len m) c1])/\Raw w' a1 (len m) c1 m/\Fr V.heap.size a1/\Ext V w':=by
  intro V hV;refine (rK V t b k' c' m (h'.ext hV)).mono ?_;rintro e w' ⟨a1,c1,he,hr,hf,hx⟩;rw [bF]at he hr;rw [tS t m hm]at he;exact ⟨a1,c1,he,hr,hf,hx⟩
 have HS:=ah hS;have HN:=ah hN;clear hS hN
 have hNn: ∀V,Ext w V->Calls prog 136 #[.agg #[.bool s,.slice a k c]] V (bB (bp s n) V):=λV hV=>rK V s a k c n (h.ext hV);obtain ⟨Z,hZ⟩: ∃Z,Z=bp s n:=⟨_,rfl⟩;rw [<-hZ]at hNn;obtain ⟨q,hq⟩: ∃q:Rat,q=mkRat (bp (s !=t) n) 1:=⟨_,rfl⟩
 have js:q.num=Z/\q.den=1:=by
  have e:q=((bp s n:Int):Rat):=by rw [hq,ht,Bool.bne_false,Rat.mkRat_one]
  rw [e,hZ];exact ⟨rfl,rfl⟩
 rw [<-hq];have UU:=ah hNn;have HQ:=ah js;have Th:=ah Cg
 clear hNn js hq hZ Cg;subst ht;go_enter func81,ntmps81
 go_wp2_with fail
 obtain ⟨W,hW,x0,Z0,A0,A1,A2⟩:=fC w 90 [.bool s,.slice a k c] 90 [.bool false,.slice b k' c'] 92 [.bool false,.slice none 0 0,.slice none 0 0];rw [<-hW];clear hW;obtain ⟨aM,bg,bL,bM⟩:=aH A0 ar;have z0:=(A0.ext ar).lt;have aU:=aH A1 ar;have z1:=(A1.ext ar).lt;obtain ⟨bK,cD,gj,cT,cU,ik⟩:=aK A2 ar;have z2:=(A2.ext ar).lt;refine (HS.o _ x0).mono ?_;rintro e w1 ⟨rfl,x1⟩;obtain ⟨aM,bg,bL,bM⟩:=aH A0 x1;have z0:=(A0.ext x1).lt;have aU:=aH A1 x1;have z1:=(A1.ext x1).lt;obtain ⟨bK,cD,gj,cT,cU,ik⟩:=aK A2 x1;have z2:=(A2.ext x1).lt;go_wp2_with fail
 refine (HN.o _ (x0.trans x1)).mono ?_;rintro e w2 ⟨a1,c1,rfl,r1,f1,x2⟩;obtain ⟨aM,bg,bL,bM⟩:=aH A0 (x1.trans x2);have z0:=(A0.ext (x1.trans x2)).lt;have aU:=aH A1 (x1.trans x2);have z1:=(A1.ext (x1.trans x2)).lt;obtain ⟨bK,cD,gj,cT,cU,ik⟩:=aK A2 (x1.trans x2);have z2:=(A2.ext (x1.trans x2)).lt;go_upto_region 4 with fail
 obtain ⟨W2,hW2,y2,ZZ2,P0⟩:=aV w2 90 [.bool false,.slice a1 (len m) c1];rw [<-hW2];clear hW2;have g2:Ext W W2:=(x1.trans x2).trans y2;obtain ⟨aM,bg,bL,bM⟩:=aH A0 g2;have z0:=(A0.ext g2).lt;have aU:=aH A1 g2;have z1:=(A1.ext g2).lt;obtain ⟨bK,cD,gj,cT,cU,ik⟩:=aK A2 g2;have z2:=(A2.ext g2).lt;obtain ⟨Fk,II,N8,N9⟩:=aH P0 ar;go_wp2_with fail
 have o1:=oL W2;have y3:Ext W2 (W2.alloc (Obj.cells #[.int .u32 1] 142)):=ar.alloc _;obtain ⟨l,hl,hv,hA⟩:=(r1.ext y2).ext y3;obtain ⟨l',hl',hv',hA'⟩:=o1;have Rm:=CR _ _ _ _ _ l l' hA hA';have UX:l'= [1]:=val_inj hA'.small (Small.one aq) (by rw [hl'];rfl) (by rw [hv'];rfl);have el:l= [1]:=(zB hA.small (by rw [hl,hv])).2 (by rw [hv,Th.o]);rw [decide_eq_true (show l=l' by rw [el,UX]),hl,hl']at Rm;clear hA hA' hl hl' hv hv' el UX;refine Rm.mono ?_;rintro e w3 ⟨rfl,Np⟩;clear Rm;have g3:Ext W w3:=(g2.trans y3).trans Np.ext;have v3:Ext W2 w3:=y3.trans Np.ext;obtain ⟨aM,bg,bL,bM⟩:=aH A0 g3;have z0:=(A0.ext g3).lt;have aU:=aH A1 g3;have z1:=(A1.ext g3).lt;obtain ⟨bK,cD,gj,cT,cU,ik⟩:=aK A2 g3;have z2:=(A2.ext g3).lt;obtain ⟨Fk,II,N8,N9⟩:=aH P0 v3;go_wp2_with fail
 go_region_held3 (λw'=>w'.cell? ⟨w.heap.size,0,none⟩=some (.bool s)/\w'.cell? ⟨w.heap.size,1,none⟩=some (.slice a k c)/\w'.cell? ⟨w2.heap.size,0,none⟩=some (.bool false)/\w'.cell? ⟨w2.heap.size,1,none⟩=some (.slice a1 (len m) c1)) (first|exact ⟨aM,bg,Fk,II⟩|(simp [go_sem,aM,bg,Fk,II])) (first
  |(go_at_call 136;refine (UU.o _ (by exact x0.trans g3.drew)).mono ?_;rintro e w4 ⟨a4,c4,rfl,r4,f4,x4⟩;obtain ⟨aM,bg,bL,bM⟩:=aH A0 (g3.drew.trans x4);have z0:=(A0.ext (g3.drew.trans x4)).lt;have aU:=aH A1 (g3.drew.trans x4);have z1:=(A1.ext (g3.drew.trans x4)).lt;obtain ⟨bK,cD,gj,cT,cU,ik⟩:=aK A2 (g3.drew.trans x4);have z2:=(A2.ext (g3.drew.trans x4)).lt;obtain ⟨Fk,II,N8,N9⟩:=aH P0 (v3.drew.trans x4)))
 go_wp2_with fail
 have zz:=Z0.o;have rN:Raw w4 a4 (len q.num.natAbs) c4 q.num.natAbs:=by rw [HQ.o.1];exact r4
 have rD:Raw w4 a1 (len q.den) c1 q.den:=by rw [HQ.o.2,<-Th.o];exact (r1.ext y2).ext (v3.drew.trans x4)
 have fin:bG q W (.returned (.agg #[.bool (decide (q.num<0)),.slice a4 (len q.num.natAbs) c4,.slice a1 (len q.den) c1])) w4:=⟨_,_,_,_,rfl,rN,f4.mono g3.drew.size,rD,f1.mono x1.size,g3.drew.trans x4⟩;rw [HQ.o.1,HQ.o.2,<-Th.o]at fin;exact bodyPost_ret (by simp [results,results81,go_sem,bK,cD,gj]) rfl (bG.bt fin x0 (Touch.three _ ae ae _ _ _))
theorem yN (w:World) (s t:Bool) (a b:Option Addr) (k c k' c' n m:Nat) (h:Raw w a k c n) (h':Raw w b k' c' m) (ht:t=false) (hm:0<m) (b1:k<900000000) (b2:k'<900000000) (Cg:m≠1):
 Calls prog 81 #[.agg #[.bool s,.slice a k c],.agg #[.bool t,.slice b k' c']] w (bG (mkRat (bp (s !=t) n) m) w):=by
 have hS: ∀V,Ext w V->Calls prog 94 #[.agg #[.bool t,.slice b k' c']] V λe w'=>e= .returned (.int .i64 (bp t m).sign)/\Ext V w':=λV hV=>rL V t b k' c' m (h'.ext hV)
 have N7:((bp t m).sign==0)=false:=by
  rw [beq_eq_false_iff_ne];cases t with
  |true=>rw [gW,Int.sign_eq_neg_one_of_neg ae];decide
  |false=>rw [ep,Int.sign_eq_one_of_pos ae];decide
 generalize (bp t m).sign=sg at hS N7
 have hN: ∀V,Ext w V->Calls prog 136 #[.agg #[.bool t,.slice b k' c']] V λe w'=> ∃a1 c1,e= .returned (.agg #[.bool t,.slice a1 (len m) c1])/\Raw w' a1 (len m) c1 m/\Fr V.heap.size a1/\Ext V w':=by
  intro V hV;refine (rK V t b k' c' m (h'.ext hV)).mono ?_;rintro e w' ⟨a1,c1,he,hr,hf,hx⟩;rw [bF]at he hr;rw [tS t m hm]at he;exact ⟨a1,c1,he,hr,hf,hx⟩
 have HS:=ah hS;have HN:=ah hN;clear hS hN
 have Nn:=h.cI;have wI:=h'.cI;have hg0:0<Nat.gcd n m:=Nat.gcd_pos_of_pos_right _ hm;have IJ:len (Nat.gcd n m)<=len m:=df (Nat.le_of_dvd hm (Nat.gcd_dvd_right n m));have YE:0<m/Nat.gcd n m:=Nat.div_pos (Nat.le_of_dvd hm (Nat.gcd_dvd_right n m)) hg0
 have hG: ∀V,Ext w V->Calls prog 138 #[.agg #[.bool s,.slice a k c],.agg #[.bool t,.slice b k' c']] V λe w'=> ∃a1 c1,e= .returned (.agg #[.bool false,.slice a1 (len (Nat.gcd n m)) c1])/\Raw w' a1 (len (Nat.gcd n m)) c1 (Nat.gcd n m)/\Ext V w':=by
  intro V hV;refine (KY V s t a b k c k' c' n m (h.ext hV) (h'.ext hV) ae ae).mono ?_;rintro e w' ⟨a1,c1,he,hr,hf,hx⟩;rw [Int.natAbs_natCast]at he hr;rw [decide_eq_false ae]at he;exact ⟨a1,c1,he,hr,hx⟩
 have hD: ∀(V:World) (u:Bool) (a':Option Addr) (j d x:Nat) (a2:Option Addr) (c2:Nat),Raw V a' j d x->j<900000000->x % Nat.gcd n m=0->Raw V a2 (len (Nat.gcd n m)) c2 (Nat.gcd n m)->Calls prog 139 #[.agg #[.bool u,.slice a' j d],.agg #[.bool false,.slice a2 (len (Nat.gcd n m)) c2]] V λe w'=> ∃a3 c3 a4 c4,e= .returned (.tuple #[.agg #[.bool (decide (bp u (x/Nat.gcd n m)<0)),.slice a3 (len (x/Nat.gcd n m)) c3],.agg #[.bool false,.slice a4 0 c4],.bool true])/\Raw w' a3 (len (x/Nat.gcd n m)) c3 (x/Nat.gcd n m)/\Fr V.heap.size a3/\Ext V w':=by
  intro V u a' j d x a2 c2 hR hj hx0 yK;have:=zy V u false a' a2 j d _ c2 x _ hR yK hg0 hj ae;obtain ⟨q1,q2⟩:=tL (s:=u) (t:=false) (n:=x) hg0 (Or.inr hx0);rw [q1,q2,hx0,Bool.bne_false]at this;refine this.mono ?_;rintro e w' ⟨a3,c3,a4,c4,he,hr3,hf3,hr4,PE,hx⟩;rw [bF]at he hr3;exact ⟨a3,c3,a4,c4,he,hr3,hf3,hx⟩
 have hx1:n % Nat.gcd n m=0:=Nat.mod_eq_zero_of_dvd (Nat.gcd_dvd_left n m);have hx2:m % Nat.gcd n m=0:=Nat.mod_eq_zero_of_dvd (Nat.gcd_dvd_right n m);obtain ⟨m1,m2,m3⟩:=CX s t n m hm;obtain ⟨q,hq⟩: ∃q:Rat,q=mkRat (bp (s !=t) n) m:=⟨_,rfl⟩;rw [<-hq]at m1 m2 m3⊢;have UY:=tS t _ YE
 have UZ: ∀(V:World) (a2:Option Addr) (c2:Nat),Ext w V->Raw V a2 (len (Nat.gcd n m)) c2 (Nat.gcd n m)->Calls prog 139 #[.agg #[.bool t,.slice b k' c'],.agg #[.bool false,.slice a2 (len (Nat.gcd n m)) c2]] V λe w'=> ∃a3 c3 a4 c4,e= .returned (.tuple #[.agg #[.bool t,.slice a3 (len (m/Nat.gcd n m)) c3],.agg #[.bool false,.slice a4 0 c4],.bool true])/\Raw w' a3 (len (m/Nat.gcd n m)) c3 (m/Nat.gcd n m)/\Fr V.heap.size a3/\Ext V w':=by
  intro V a2 c2 hV yK;have:=hD V t b k' c' m a2 c2 (h'.ext hV) b2 hx2 yK;rw [UY]at this;exact this
 have Rn: ∀(V:World) (a2:Option Addr) (c2:Nat),Ext w V->Raw V a2 (len (Nat.gcd n m)) c2 (Nat.gcd n m)->Calls prog 139 #[.agg #[.bool s,.slice a k c],.agg #[.bool false,.slice a2 (len (Nat.gcd n m)) c2]] V λe w'=> ∃a3 c3 a4 c4,e= .returned (.tuple #[.agg #[.bool (decide (bp s (n/Nat.gcd n m)<0)),.slice a3 (len (n/Nat.gcd n m)) c3],.agg #[.bool false,.slice a4 0 c4],.bool true])/\Raw w' a3 (len (n/Nat.gcd n m)) c3 (n/Nat.gcd n m)/\Fr V.heap.size a3/\Ext V w':=λV a2 c2 hV yK=>hD V s a k c n a2 c2 (h.ext hV) b1 hx1 yK;have zn:=df (Nat.div_le_self n (Nat.gcd n m));have hl2:=df (Nat.div_le_self m (Nat.gcd n m));generalize n/Nat.gcd n m=N at*;generalize m/Nat.gcd n m=D at*;generalize Nat.gcd n m=G at*;obtain ⟨sN,Ro⟩: ∃sN,sN=decide (bp s N<0):=⟨_,rfl⟩;rw [<-Ro]at Rn;have HG:=ah hG;have HD1:=ah Rn;have HD2:=ah UZ
 have M1:=ah m1;have M2:=ah m2;have M3:=ah m3;have PK:=ah Ro;have HQ:=ah hq
 clear hG hD Rn UZ hx1 hx2 m1 m2 m3 hq UY Ro;subst ht;go_enter func81,ntmps81
 go_wp2_with fail
 obtain ⟨W,hW,x0,Z0,A0,A1,A2⟩:=fC w 90 [.bool s,.slice a k c] 90 [.bool false,.slice b k' c'] 92 [.bool false,.slice none 0 0,.slice none 0 0];rw [<-hW];clear hW;have aM:=aH A0 ar;have z0:=(A0.ext ar).lt;have aU:=aH A1 ar;have z1:=(A1.ext ar).lt;obtain ⟨bK,cD,gj,cT,cU,ik⟩:=aK A2 ar;have z2:=(A2.ext ar).lt;refine (HS.o _ x0).mono ?_;rintro e w1 ⟨rfl,x1⟩;have aM:=aH A0 x1;have z0:=(A0.ext x1).lt;have aU:=aH A1 x1;have z1:=(A1.ext x1).lt;obtain ⟨bK,cD,gj,cT,cU,ik⟩:=aK A2 x1;have z2:=(A2.ext x1).lt;go_wp2_with fail
 refine (HN.o _ (x0.trans x1)).mono ?_;rintro e w2 ⟨a1,c1,rfl,r1,f1,x2⟩;have aM:=aH A0 (x1.trans x2);have z0:=(A0.ext (x1.trans x2)).lt;have aU:=aH A1 (x1.trans x2);have z1:=(A1.ext (x1.trans x2)).lt;obtain ⟨bK,cD,gj,cT,cU,ik⟩:=aK A2 (x1.trans x2);have z2:=(A2.ext (x1.trans x2)).lt;go_upto_region 4 with fail
 obtain ⟨W2,hW2,y2,ZZ2,P0⟩:=aV w2 90 [.bool false,.slice a1 (len m) c1];rw [<-hW2];clear hW2;have g2:Ext W W2:=(x1.trans x2).trans y2;have aM:=aH A0 g2;have z0:=(A0.ext g2).lt;have aU:=aH A1 g2;have z1:=(A1.ext g2).lt;obtain ⟨bK,cD,gj,cT,cU,ik⟩:=aK A2 g2;have z2:=(A2.ext g2).lt;have Fk:=aH P0 ar;go_wp2_with fail
 have o1:=oL W2;have y3:Ext W2 (W2.alloc (Obj.cells #[.int .u32 1] 142)):=ar.alloc _;obtain ⟨l,hl,hv,hA⟩:=(r1.ext y2).ext y3;obtain ⟨l',hl',hv',hA'⟩:=o1;have Rm:=CR _ _ _ _ _ l l' hA hA';have UX:l'= [1]:=val_inj hA'.small (Small.one aq) (by rw [hl'];rfl) (by rw [hv'];rfl)
 have el: ¬l=l':=by
  intro h5;rw [UX]at h5;have:=(zB hA.small (by rw [hl,hv])).1 h5;rw [hv]at this;exact Cg this
 rw [decide_eq_false el,hl,hl']at Rm;clear hA hA' hl hl' hv hv' el UX;refine Rm.mono ?_;rintro e w3 ⟨rfl,Np⟩;clear Rm;have g3:Ext W w3:=(g2.trans y3).trans Np.ext;have aM:=aH A0 g3;have z0:=(A0.ext g3).lt;have aU:=aH A1 g3;have z1:=(A1.ext g3).lt;obtain ⟨bK,cD,gj,cT,cU,ik⟩:=aK A2 g3;have z2:=(A2.ext g3).lt;go_wp2_with fail
 refine (HG.o _ (x0.trans g3)).mono ?_;rintro e w4 ⟨a4,c4,rfl,r4,x4⟩;go_upto_region 7 with fail
 obtain ⟨W4,KZ,y4,ZZ4,P1⟩:=aV w4 90 [.bool false,.slice a4 (len G) c4];rw [<-KZ];clear KZ;have g4:Ext W W4:=(g3.trans x4).trans y4;have aM:=aH A0 g4;have z0:=(A0.ext g4).lt;have aU:=aH A1 g4;have z1:=(A1.ext g4).lt;obtain ⟨bK,cD,gj,cT,cU,ik⟩:=aK A2 g4;have z2:=(A2.ext g4).lt;have Rp:=aH P1 ar;go_wp2_with fail
 refine (HD1.o _ _ _ (x0.trans g4) (r4.ext y4)).mono ?_;rintro e w5 ⟨a5,c5,a6,c6,rfl,r5,f5,x5⟩;go_upto_region 8 with fail
 obtain ⟨W5,K0,y5,ZZ5,P2,P3⟩:=dZ w5 90 [.bool sN,.slice a5 (len N) c5] 90 [.bool false,.slice a6 0 c6];rw [<-K0];clear K0;have g5:Ext W W5:=(g4.trans x5).trans y5;have aM:=aH A0 g5;have z0:=(A0.ext g5).lt;have aU:=aH A1 g5;have z1:=(A1.ext g5).lt;obtain ⟨bK,cD,gj,cT,cU,ik⟩:=aK A2 g5;have z2:=(A2.ext g5).lt;have Rp:=aH P1 (x5.trans y5);have Fl:=aH P2 ar;go_wp2_with fail
 refine (HD2.o _ _ _ (x0.trans g5) (((r4.ext y4).ext x5).ext y5)).mono ?_;rintro e w6 ⟨a7,c7,a8,c8,rfl,r7,f7,x6⟩;go_upto_region 9 with fail
 obtain ⟨W6,K3,y6,ZZ6,P4,P5⟩:=dZ w6 90 [.bool false,.slice a7 (len D) c7] 90 [.bool false,.slice a8 0 c8];rw [<-K3];clear K3;have g6:Ext W W6:=(g5.trans x6).trans y6;have v6:Ext W5 W6:=x6.trans y6;have aM:=aH A0 g6;have z0:=(A0.ext g6).lt;have aU:=aH A1 g6;have z1:=(A1.ext g6).lt;obtain ⟨bK,cD,gj,cT,cU,ik⟩:=aK A2 g6;have z2:=(A2.ext g6).lt;have Fl:=aH P2 v6;have K6:=aH P4 ar;have zz:=Z0.o;go_wp2_with fail
 have rN:Raw W6 a5 (len q.num.natAbs) c5 q.num.natAbs:=by rw [M1.o];exact (r5.ext y5).ext v6
 have rD:Raw W6 a7 (len q.den) c7 q.den:=by rw [M2.o];exact r7.ext y6
 have fin:bG q W (.returned (.agg #[.bool (decide (q.num<0)),.slice a5 (len q.num.natAbs) c5,.slice a7 (len q.den) c7])) W6:=⟨_,_,_,_,rfl,rN,f5.mono g4.size,rD,f7.mono g5.size,g6⟩;rw [M1.o,M2.o,M3.o,Bool.bne_false,<-PK.o]at fin;exact bodyPost_ret (by simp [results,results81,go_sem,bK,cD,gj]) rfl (bG.bt fin x0 (Touch.three _ ae ae _ _ _))
theorem Bj (w:World) (s t:Bool) (a b:Option Addr) (k c k' c' n m:Nat) (h:Raw w a k c n) (h':Raw w b k' c' m) (ht:t=true) (hm:0<m) (b1:k<900000000) (b2:k'<900000000):
 Calls prog 81 #[.agg #[.bool s,.slice a k c],.agg #[.bool t,.slice b k' c']] w (bG (mkRat (bp (s !=t) n) m) w):=by
 have hS: ∀V,Ext w V->Calls prog 94 #[.agg #[.bool t,.slice b k' c']] V λe w'=>e= .returned (.int .i64 (bp t m).sign)/\Ext V w':=λV hV=>rL V t b k' c' m (h'.ext hV)
 have N7:((bp t m).sign==0)=false:=by
  rw [beq_eq_false_iff_ne];cases t with
  |true=>rw [gW,Int.sign_eq_neg_one_of_neg ae];decide
  |false=>rw [ep,Int.sign_eq_one_of_pos ae];decide
 generalize (bp t m).sign=sg at hS N7
 have hN: ∀V,Ext w V->Calls prog 136 #[.agg #[.bool t,.slice b k' c']] V λe w'=> ∃a1 c1,e= .returned (.agg #[.bool t,.slice a1 (len m) c1])/\Raw w' a1 (len m) c1 m/\Fr V.heap.size a1/\Ext V w':=by
  intro V hV;refine (rK V t b k' c' m (h'.ext hV)).mono ?_;rintro e w' ⟨a1,c1,he,hr,hf,hx⟩;rw [bF]at he hr;rw [tS t m hm]at he;exact ⟨a1,c1,he,hr,hf,hx⟩
 have HS:=ah hS;have HN:=ah hN;clear hS hN
 have Nn:=h.cI;have wI:=h'.cI;have hg0:0<Nat.gcd n m:=Nat.gcd_pos_of_pos_right _ hm;have IJ:len (Nat.gcd n m)<=len m:=df (Nat.le_of_dvd hm (Nat.gcd_dvd_right n m));have YE:0<m/Nat.gcd n m:=Nat.div_pos (Nat.le_of_dvd hm (Nat.gcd_dvd_right n m)) hg0
 have hG: ∀V,Ext w V->Calls prog 138 #[.agg #[.bool s,.slice a k c],.agg #[.bool t,.slice b k' c']] V λe w'=> ∃a1 c1,e= .returned (.agg #[.bool false,.slice a1 (len (Nat.gcd n m)) c1])/\Raw w' a1 (len (Nat.gcd n m)) c1 (Nat.gcd n m)/\Ext V w':=by
  intro V hV;refine (KY V s t a b k c k' c' n m (h.ext hV) (h'.ext hV) ae ae).mono ?_;rintro e w' ⟨a1,c1,he,hr,hf,hx⟩;rw [Int.natAbs_natCast]at he hr;rw [decide_eq_false ae]at he;exact ⟨a1,c1,he,hr,hx⟩
 have hD: ∀(V:World) (u:Bool) (a':Option Addr) (j d x:Nat) (a2:Option Addr) (c2:Nat),Raw V a' j d x->j<900000000->x % Nat.gcd n m=0->Raw V a2 (len (Nat.gcd n m)) c2 (Nat.gcd n m)->Calls prog 139 #[.agg #[.bool u,.slice a' j d],.agg #[.bool false,.slice a2 (len (Nat.gcd n m)) c2]] V λe w'=> ∃a3 c3 a4 c4,e= .returned (.tuple #[.agg #[.bool (decide (bp u (x/Nat.gcd n m)<0)),.slice a3 (len (x/Nat.gcd n m)) c3],.agg #[.bool false,.slice a4 0 c4],.bool true])/\Raw w' a3 (len (x/Nat.gcd n m)) c3 (x/Nat.gcd n m)/\Fr V.heap.size a3/\Ext V w':=by
  intro V u a' j d x a2 c2 hR hj hx0 yK;have:=zy V u false a' a2 j d _ c2 x _ hR yK hg0 hj ae;obtain ⟨q1,q2⟩:=tL (s:=u) (t:=false) (n:=x) hg0 (Or.inr hx0);rw [q1,q2,hx0,Bool.bne_false]at this;refine this.mono ?_;rintro e w' ⟨a3,c3,a4,c4,he,hr3,hf3,hr4,PE,hx⟩;rw [bF]at he hr3;exact ⟨a3,c3,a4,c4,he,hr3,hf3,hx⟩
 have hx1:n % Nat.gcd n m=0:=Nat.mod_eq_zero_of_dvd (Nat.gcd_dvd_left n m);have hx2:m % Nat.gcd n m=0:=Nat.mod_eq_zero_of_dvd (Nat.gcd_dvd_right n m);obtain ⟨m1,m2,m3⟩:=CX s t n m hm;obtain ⟨q,hq⟩: ∃q:Rat,q=mkRat (bp (s !=t) n) m:=⟨_,rfl⟩;rw [<-hq]at m1 m2 m3⊢;have UY:=tS t _ YE
 have UZ: ∀(V:World) (a2:Option Addr) (c2:Nat),Ext w V->Raw V a2 (len (Nat.gcd n m)) c2 (Nat.gcd n m)->Calls prog 139 #[.agg #[.bool t,.slice b k' c'],.agg #[.bool false,.slice a2 (len (Nat.gcd n m)) c2]] V λe w'=> ∃a3 c3 a4 c4,e= .returned (.tuple #[.agg #[.bool t,.slice a3 (len (m/Nat.gcd n m)) c3],.agg #[.bool false,.slice a4 0 c4],.bool true])/\Raw w' a3 (len (m/Nat.gcd n m)) c3 (m/Nat.gcd n m)/\Fr V.heap.size a3/\Ext V w':=by
  intro V a2 c2 hV yK;have:=hD V t b k' c' m a2 c2 (h'.ext hV) b2 hx2 yK;rw [UY]at this;exact this
 have Rn: ∀(V:World) (a2:Option Addr) (c2:Nat),Ext w V->Raw V a2 (len (Nat.gcd n m)) c2 (Nat.gcd n m)->Calls prog 139 #[.agg #[.bool s,.slice a k c],.agg #[.bool false,.slice a2 (len (Nat.gcd n m)) c2]] V λe w'=> ∃a3 c3 a4 c4,e= .returned (.tuple #[.agg #[.bool (decide (bp s (n/Nat.gcd n m)<0)),.slice a3 (len (n/Nat.gcd n m)) c3],.agg #[.bool false,.slice a4 0 c4],.bool true])/\Raw w' a3 (len (n/Nat.gcd n m)) c3 (n/Nat.gcd n m)/\Fr V.heap.size a3/\Ext V w':=λV a2 c2 hV yK=>hD V s a k c n a2 c2 (h.ext hV) b1 hx1 yK;have zn:=df (Nat.div_le_self n (Nat.gcd n m));have hl2:=df (Nat.div_le_self m (Nat.gcd n m));generalize n/Nat.gcd n m=N at*;generalize m/Nat.gcd n m=D at*;generalize Nat.gcd n m=G at*;obtain ⟨sN,Ro⟩: ∃sN,sN=decide (bp s N<0):=⟨_,rfl⟩;rw [<-Ro]at Rn;have HG:=ah hG;have HD1:=ah Rn;have HD2:=ah UZ
 have M1:=ah m1;have M2:=ah m2;have M3:=ah m3;have PK:=ah Ro;have HQ:=ah hq
 clear hG hD Rn UZ hx1 hx2 m1 m2 m3 hq UY Ro;subst ht;go_enter func81,ntmps81
 go_wp2_with fail
 obtain ⟨W,hW,x0,Z0,A0,A1,A2⟩:=fC w 90 [.bool s,.slice a k c] 90 [.bool true,.slice b k' c'] 92 [.bool false,.slice none 0 0,.slice none 0 0];rw [<-hW];clear hW;obtain ⟨aM,bg,bL,bM⟩:=aH A0 ar;have z0:=(A0.ext ar).lt;obtain ⟨aU,bq,cA,cC⟩:=aH A1 ar;have z1:=(A1.ext ar).lt;obtain ⟨bK,cD,gj,cT,cU,ik⟩:=aK A2 ar;have z2:=(A2.ext ar).lt;refine (HS.o _ x0).mono ?_;rintro e w1 ⟨rfl,x1⟩;obtain ⟨aM,bg,bL,bM⟩:=aH A0 x1;have z0:=(A0.ext x1).lt;obtain ⟨aU,bq,cA,cC⟩:=aH A1 x1;have z1:=(A1.ext x1).lt;obtain ⟨bK,cD,gj,cT,cU,ik⟩:=aK A2 x1;have z2:=(A2.ext x1).lt;go_wp2_with fail
 refine (HN.o _ (x0.trans x1)).mono ?_;rintro e w2 ⟨a1,c1,rfl,r1,f1,x2⟩;obtain ⟨aM,bg,bL,bM⟩:=aH A0 (x1.trans x2);have z0:=(A0.ext (x1.trans x2)).lt;obtain ⟨aU,bq,cA,cC⟩:=aH A1 (x1.trans x2);have z1:=(A1.ext (x1.trans x2)).lt;obtain ⟨bK,cD,gj,cT,cU,ik⟩:=aK A2 (x1.trans x2);have z2:=(A2.ext (x1.trans x2)).lt;go_upto_region 4 with fail
 obtain ⟨W2,hW2,y2,ZZ2,P0⟩:=aV w2 90 [.bool true,.slice a1 (len m) c1];rw [<-hW2];clear hW2;have g2:Ext W W2:=(x1.trans x2).trans y2;obtain ⟨aM,bg,bL,bM⟩:=aH A0 g2;have z0:=(A0.ext g2).lt;obtain ⟨aU,bq,cA,cC⟩:=aH A1 g2;have z1:=(A1.ext g2).lt;obtain ⟨bK,cD,gj,cT,cU,ik⟩:=aK A2 g2;have z2:=(A2.ext g2).lt;obtain ⟨Fk,II,N8,N9⟩:=aH P0 ar;obtain ⟨w3,hw3⟩: ∃w3:World,w3=W2:=⟨_,rfl⟩;have g3:Ext W w3:=by rw [hw3];exact g2
 rw [<-hw3]at aM bg bL bM aU bq cA cC bK cD gj cT cU ik Fk II N8 N9⊢;clear hw3;go_wp2_with fail
 refine (HG.o _ (x0.trans g3)).mono ?_;rintro e w4 ⟨a4,c4,rfl,r4,x4⟩;go_upto_region 7 with fail
 obtain ⟨W4,KZ,y4,ZZ4,P1⟩:=aV w4 90 [.bool false,.slice a4 (len G) c4];rw [<-KZ];clear KZ;have g4:Ext W W4:=(g3.trans x4).trans y4;obtain ⟨aM,bg,bL,bM⟩:=aH A0 g4;have z0:=(A0.ext g4).lt;obtain ⟨aU,bq,cA,cC⟩:=aH A1 g4;have z1:=(A1.ext g4).lt;obtain ⟨bK,cD,gj,cT,cU,ik⟩:=aK A2 g4;have z2:=(A2.ext g4).lt;have Rp:=aH P1 ar;go_wp2_with fail
 refine (HD1.o _ _ _ (x0.trans g4) (r4.ext y4)).mono ?_;rintro e w5 ⟨a5,c5,a6,c6,rfl,r5,f5,x5⟩;go_upto_region 8 with fail
 obtain ⟨W5,K0,y5,ZZ5,P2,P3⟩:=dZ w5 90 [.bool sN,.slice a5 (len N) c5] 90 [.bool false,.slice a6 0 c6];rw [<-K0];clear K0;have g5:Ext W W5:=(g4.trans x5).trans y5;obtain ⟨aM,bg,bL,bM⟩:=aH A0 g5;have z0:=(A0.ext g5).lt;obtain ⟨aU,bq,cA,cC⟩:=aH A1 g5;have z1:=(A1.ext g5).lt;obtain ⟨bK,cD,gj,cT,cU,ik⟩:=aK A2 g5;have z2:=(A2.ext g5).lt;have Rp:=aH P1 (x5.trans y5);have Fl:=aH P2 ar;go_wp2_with fail
 refine (HD2.o _ _ _ (x0.trans g5) (((r4.ext y4).ext x5).ext y5)).mono ?_;rintro e w6 ⟨a7,c7,a8,c8,rfl,r7,f7,x6⟩;go_upto_region 9 with fail
 obtain ⟨W6,K3,y6,ZZ6,P4,P5⟩:=dZ w6 90 [.bool true,.slice a7 (len D) c7] 90 [.bool false,.slice a8 0 c8];rw [<-K3];clear K3;have g6:Ext W W6:=(g5.trans x6).trans y6;have v6:Ext W5 W6:=x6.trans y6;obtain ⟨aM,bg,bL,bM⟩:=aH A0 g6;have z0:=(A0.ext g6).lt;obtain ⟨aU,bq,cA,cC⟩:=aH A1 g6;have z1:=(A1.ext g6).lt;obtain ⟨bK,cD,gj,cT,cU,ik⟩:=aK A2 g6;have z2:=(A2.ext g6).lt;have Fl:=aH P2 v6;have K6:=aH P4 ar;have zz:=Z0.o;obtain ⟨sM,hsM⟩: ∃sM,sM=decide (bp (s !=true) N<0):=⟨_,rfl⟩;have e5:Ext w5 W6:=y5.trans v6
 have Ti: ∀V,Ext W6 V->Calls prog 140 #[.agg #[.bool sN,.slice a5 (len N) c5]] V λe w'=> ∃a9 c9,e= .returned (.agg #[.bool sM,.slice a9 (len N) c9])/\Raw w' a9 (len N) c9 N/\Fr V.heap.size a9/\Ext V w':=by
  intro V hV;refine (Be V sN a5 _ c5 N ((r5.ext e5).ext hV)).mono ?_;rintro e w' ⟨a9,c9,he,hr,hf,hx⟩
  have e1: -bp sN N=bp (s !=true) N:=by
   have e2:=fc (bp s N);rw [bF,<-PK.o]at e2;rw [e2,<-AO];cases s<;>rfl
  rw [e1]at he hr;rw [bF]at he hr;rw [<-hsM]at he;exact ⟨a9,c9,he,hr,hf,hx⟩
 have hN2: ∀V,Ext W6 V->Calls prog 140 #[.agg #[.bool true,.slice a7 (len D) c7]] V λe w'=> ∃a9 c9,e= .returned (.agg #[.bool false,.slice a9 (len D) c9])/\Raw w' a9 (len D) c9 D/\Fr V.heap.size a9/\Ext V w':=by
  intro V hV;refine (Be V true a7 _ c7 D ((r7.ext y6).ext hV)).mono ?_;rintro e w' ⟨a9,c9,he,hr,hf,hx⟩;rw [<-AO,Bool.not_true]at he hr;rw [bF]at he hr;rw [tS false D YE]at he;exact ⟨a9,c9,he,hr,hf,hx⟩
 have GX:=ah Ti;have J_:=ah hN2;have CZ:=ah hsM
 clear Ti hN2 hsM;have s45:W.heap.size<=w5.heap.size:=(g4.trans x5).size;have s46:W.heap.size<=w6.heap.size:=(g5.trans x6).size;have s56:w5.heap.size<w6.heap.size:=Nat.lt_of_lt_of_le P2.lt x6.size;go_upto_region 10 with fail
 have fT:True:=trivial;go_cut [] (λwx=> ∃a9 c9 Fc c10,aT wx w5.heap.size 90 [.bool sM,.slice a9 (len N) c9]/\aT wx w6.heap.size 90 [.bool false,.slice Fc (len D) c10]/\Raw wx a9 (len N) c9 N/\Raw wx Fc (len D) c10 D/\Fr W.heap.size a9/\Fr W.heap.size Fc/\Ext W wx)
 case first=>
  go_region_with (first
   |(go_at_call 140;have _t:=fT;refine (GX.o _ (by exact ar.drew)).mono ?_;rintro e w7 ⟨a9,c9,rfl,r9,f9,x7⟩;clear fT _t;have Fl:=aH P2 (v6.drew.trans x7);have K6:=aH P4 (ar.drew.trans x7))
   |(go_at_call 140;refine (J_.o _ (by exact ar.drew.trans x7)).mono ?_;rintro e w8 ⟨Fc,c10,rfl,U0,f10,x8⟩;have Fl:=aH P2 (v6.drew.trans (x7.trans x8));have K6:=aH P4 (ar.drew.trans (x7.trans x8))))
  all_goals go_wp2_with fail
  all_goals go_meet
  all_goals have g8:Ext W6 w8:=ar.drew.trans (x7.trans x8)
  all_goals have z9:Fr (w6.heap.size+1) a9:=f9.mono P4.lt
  all_goals have PF:Fr (w6.heap.size+1) Fc:=f10.mono (Nat.le_trans P4.lt x7.size)
  all_goals exact ⟨a9,c9,Fc,c10,(((P2.ext v6).ext g8).AV _ _).jK _ _ ae,((P4.ext g8).jK _ _ ae).AV _ _,(((((r9.ext x8).setCell _ _ (z9.ne (by simp only;omega))).setCell _ _ (z9.ne (by simp only;omega))).setCell _ _ (z9.ne (by simp only;omega))).setCell _ _ (z9.ne (by simp only;omega))),((((U0.setCell _ _ (PF.ne (by simp only;omega))).setCell _ _ (PF.ne (by simp only;omega))).setCell _ _ (PF.ne (by simp only;omega))).setCell _ _ (PF.ne (by simp only;omega))),z9.mono ae,PF.mono ae,(((((g6.trans g8).setCell s45 _).setCell s45 _).setCell s46 _).setCell s46 _)⟩
 case rest=>
  obtain ⟨a9,c9,Fc,c10,E7,E10,r9,U0,f9,f10,g9⟩:=hcut;clear Fl K6;obtain ⟨w9,rfl⟩: ∃w9:World,w9=wc:=⟨_,rfl⟩;obtain ⟨aM,bg,bL,bM⟩:=aH A0 g9;have z0:=(A0.ext g9).lt;obtain ⟨aU,bq,cA,cC⟩:=aH A1 g9;have z1:=(A1.ext g9).lt;obtain ⟨bK,cD,gj,cT,cU,ik⟩:=aK A2 g9;have z2:=(A2.ext g9).lt;have Fl:=aH E7 ar;have K6:=aH E10 ar;go_wp2_with fail
  have rN:Raw w9 a9 (len q.num.natAbs) c9 q.num.natAbs:=by rw [M1.o];exact r9
  have rD:Raw w9 Fc (len q.den) c10 q.den:=by rw [M2.o];exact U0
  have fin:bG q W (.returned (.agg #[.bool (decide (q.num<0)),.slice a9 (len q.num.natAbs) c9,.slice Fc (len q.den) c10])) w9:=⟨_,_,_,_,rfl,rN,f9,rD,f10,g9⟩;rw [M1.o,M2.o,M3.o,<-CZ.o]at fin;exact bodyPost_ret (by simp [results,results81,go_sem,bK,cD,gj]) rfl (bG.bt fin x0 (Touch.three _ ae ae _ _ _))
theorem vT (w:World) (s t:Bool) (a b:Option Addr) (k c k' c' n m:Nat) (h:Raw w a k c n) (h':Raw w b k' c' m) (b1:k<900000000) (b2:k'<900000000):
 Calls prog 81 #[.agg #[.bool s,.slice a k c],.agg #[.bool t,.slice b k' c']] w (bG (mkRat (bp (s !=t) n) m) w):=by
 by_cases h0:m=0
 .exact Bi w s t a b k c k' c' n m h h' h0
 .cases t with
  |true=>exact Bj w s true a b k c k' c' n m h h' rfl ae b1 b2
  |false=>
   by_cases h1:m=1
   .subst h1;exact CY w s a b k c k' c' n h h'
   .exact yN w s false a b k c k' c' n m h h' rfl ae b1 b2 h1
theorem Tryz.rat_num (s:Bool) (a b:Option Addr) (k c j d:Nat) (w:World):(Instr.field 92 (.agg #[.bool s,.slice a k c,.slice b j d]) 0).run Tryz.prog w= .ok (.agg #[.bool s,.slice a k c]) w:=ax
theorem Tryz.rat_den (s:Bool) (a b:Option Addr) (k c j d:Nat) (w:World):(Instr.field 92 (.agg #[.bool s,.slice a k c,.slice b j d]) 1).run Tryz.prog w= .ok (.slice b j d) w:=ax
theorem bG.wY {q:Rat} {w w':World} {e:Ending} (h:bG q w e w'):eG (decide (q.num<0)) q.num.natAbs q.den w e w':=h
theorem eG.Ba {q:Rat} {w w':World} {e:Ending} (h:eG (decide (q.num<0)) q.num.natAbs q.den w e w'):bG q w e w':=h
theorem eG.Rq {s:Bool} {n m:Nat} {w W w1 w2 w3:World} {e:Ending} (h:eG s n m w1 e w2) (hW:Ext w W) (h1:Ext W w1) (t:Touch w.heap.size W.heap.size w2 w3):eG s n m w e w3:=by
 obtain ⟨a,c,a',c',he,hr,hf,pS,hf',hx⟩:=h;exact ⟨a,c,a',c',he,hr.bt t (hf.mono h1.size).o,hf.mono (Nat.le_trans hW.size h1.size),pS.bt t (hf'.mono h1.size).o,hf'.mono (Nat.le_trans hW.size h1.size),hW.bt (h1.trans hx) t⟩
theorem rM (w:World) (s:Bool) (a b:Option Addr) (k c j d n m:Nat) (h:Raw w a k c n) (g:Raw w b j d m) (b1:k<200000000) (b2:j<200000000):
 Calls prog 95 #[.agg #[.bool s,.slice a k c,.slice b j d]] w (bG (mkRat (bp s n) m) w):=by
 have hM: ∀V,Ext w V->Calls prog 81 #[.agg #[.bool s,.slice a k c],.agg #[.bool false,.slice b j d]] V (bG (mkRat (bp s n) m) V):=by
  intro V hV;have:=vT V s false a b k c j d n m (h.ext hV) (g.ext hV) ae ae;rw [Bool.bne_false]at this;exact this
 have HM:=ah hM;clear hM
 go_enter func95,ntmps95
 go_wp2_with fail
 obtain ⟨W,hW,x0,Z0,A0,A1⟩:=dZ w 92 [.bool s,.slice a k c,.slice b j d] 92 [.bool false,.slice none 0 0,.slice none 0 0];rw [<-hW];clear hW;have aM:=aK A0 ar;have z0:=(A0.ext ar).lt;obtain ⟨aU,bq,et,cA,cC,gX⟩:=aK A1 ar;have z1:=(A1.ext ar).lt;refine (HM.o _ x0).mono ?_;intro e w1 hN;obtain ⟨a1,c1,a2,c2,rfl,r1,f1,r2,f2,x1⟩:=id hN;have aM:=aK A0 x1;have z0:=(A0.ext x1).lt;obtain ⟨aU,bq,et,cA,cC,gX⟩:=aK A1 x1;have z1:=(A1.ext x1).lt;go_wp2
 exact bodyPost_ret (by simp [results,results95,go_sem,aU,bq,et]) rfl (bG.bt hN x0 (Touch.three _ ae (by rw [Z0.o];omega) _ _ _))
theorem C4 (w:World) (s:Bool) (a b:Option Addr) (k c j d _n _m:Nat) (sP:Bool) (nP dP:Nat) (hN: ∀V,Ext w V->Calls prog 95 #[.agg #[.bool s,.slice a k c,.slice b j d]] V (eG sP nP dP V)):
 Calls prog 157 #[.agg #[.bool s,.slice a k c,.slice b j d]] w (gV false dP w):=by
 have HN:=ah hN;clear hN
 have YF:=Tryz.rat_den;go_enter func157,ntmps157
 go_wp2_with fail
 obtain ⟨W,hW,x0,Z0,A0,A1⟩:=dZ w 92 [.bool s,.slice a k c,.slice b j d] 90 [.bool false,.slice none 0 0];rw [<-hW];clear hW;have aM:=aK A0 ar;have z0:=(A0.ext ar).lt;obtain ⟨aU,bq,cA,cC⟩:=aH A1 ar;have z1:=(A1.ext ar).lt;refine (HN.o _ x0).mono ?_;rintro e w1 ⟨a1,c1,a2,c2,rfl,r1,f1,r2,f2,x1⟩;have aM:=aK A0 x1;have z0:=(A0.ext x1).lt;obtain ⟨aU,bq,cA,cC⟩:=aH A1 x1;have z1:=(A1.ext x1).lt;go_wp2_with fail
 have fin:gV false dP W (.returned (.agg #[.bool false,.slice a2 (len dP) c2])) w1:=⟨_,_,rfl,r2,f2,x1⟩;exact bodyPost_ret (by simp [results,results157,go_sem,aU,bq]) rfl (gV.bt fin x0 (Touch.two _ ae (by rw [Z0.o];omega) _ _))
theorem Fm (w:World) (s:Bool) (a b:Option Addr) (k c j d n m:Nat) (h:Raw w a k c n) (g:Raw w b j d m) (b1:k<200000000) (b2:j<200000000):
 Calls prog 157 #[.agg #[.bool s,.slice a k c,.slice b j d]] w (gV false (mkRat (bp s n) m).den w):=
 C4 w s a b k c j d n m (decide ((mkRat (bp s n) m).num<0)) (mkRat (bp s n) m).num.natAbs (mkRat (bp s n) m).den (λV hV=>(rM V s a b k c j d n m (h.ext hV) (g.ext hV) b1 b2).mono (λ_ _ hh=>hh.wY))
theorem Bk (w:World) (s:Bool) (a b:Option Addr) (k c j d _n _m:Nat) (sP:Bool) (nP dP:Nat) (z:Int) (hN: ∀V,Ext w V->Calls prog 95 #[.agg #[.bool s,.slice a k c,.slice b j d]] V (eG sP nP dP V))
 (hS: ∀V a c,Raw V a (len nP) c nP->Calls prog 94 #[.agg #[.bool sP,.slice a (len nP) c]] V λe w'=>e= .returned (.int .i64 z)/\Ext V w'):
 Calls prog 45 #[.agg #[.bool s,.slice a k c,.slice b j d]] w λe w'=>e= .returned (.int .i64 z)/\Ext w w':=by
 have HN:=ah hN;have HS:=ah hS;clear hN hS
 have YG:=Tryz.rat_num;go_enter func45,ntmps45
 go_wp2_with fail
 obtain ⟨W,hW,x0,Z0,A0⟩:=aV w 92 [.bool s,.slice a k c,.slice b j d];rw [<-hW];clear hW;have aM:=aK A0 ar;have z0:=(A0.ext ar).lt;refine (HN.o _ x0).mono ?_;rintro e w1 ⟨a1,c1,a2,c2,rfl,r1,f1,r2,f2,x1⟩;go_wp2_with fail
 refine (HS.o _ _ _ r1).mono ?_;rintro e w2 ⟨rfl,x2⟩;go_wp2
 go_ret;exact ⟨rfl,(x0.trans x1).trans x2⟩
theorem G8 (w:World) (s:Bool) (a b:Option Addr) (k c j d n m:Nat) (h:Raw w a k c n) (g:Raw w b j d m) (b1:k<200000000) (b2:j<200000000):
 Calls prog 45 #[.agg #[.bool s,.slice a k c,.slice b j d]] w λe w'=>e= .returned (.int .i64 (mkRat (bp s n) m).num.sign)/\Ext w w':=
 Bk w s a b k c j d n m (decide ((mkRat (bp s n) m).num<0)) (mkRat (bp s n) m).num.natAbs (mkRat (bp s n) m).den _ (λV hV=>(rM V s a b k c j d n m (h.ext hV) (g.ext hV) b1 b2).mono (λ_ _ hh=>hh.wY))
  (λV a c hR=>by
    have:=rL V (decide ((mkRat (bp s n) m).num<0)) a _ c _ hR;rw [fc]at this;exact this)
theorem vu (w:World) (x:Int) (s1 s2 s:Bool) (n1 n2 n m:Nat) (h1: ∀V,Calls prog 82 #[.int .i64 x] V (gV s1 n1 V)) (h2: ∀V,Calls prog 82 #[.int .i64 1] V (gV s2 n2 V))
 (h3: ∀V a c b d,Raw V a (len n1) c n1->Raw V b (len n2) d n2->Calls prog 81 #[.agg #[.bool s1,.slice a (len n1) c],.agg #[.bool s2,.slice b (len n2) d]] V (eG s n m V)):
 Calls prog 47 #[.int .i64 x] w (eG s n m w):=by
 have H1:=ah h1;have H2:=ah h2;have H3:=ah h3;clear h1 h2 h3
 go_enter func47,ntmps47
 go_wp2_with fail
 obtain ⟨W,hW,x0,Z0,A0⟩:=aV w 92 [.bool false,.slice none 0 0,.slice none 0 0];rw [<-hW];clear hW;obtain ⟨aM,bg,dv,bL,bM,eZ⟩:=aK A0 ar;have z0:=(A0.ext ar).lt;refine (H1.o _).mono ?_;rintro e w1 ⟨a1,c1,rfl,r1,f1,x1⟩;obtain ⟨aM,bg,dv,bL,bM,eZ⟩:=aK A0 x1;have z0:=(A0.ext x1).lt;go_wp2_with fail
 refine (H2.o _).mono ?_;rintro e w2 ⟨a2,c2,rfl,r2,f2,x2⟩;obtain ⟨aM,bg,dv,bL,bM,eZ⟩:=aK A0 (x1.trans x2);have z0:=(A0.ext (x1.trans x2)).lt;go_wp2_with fail
 refine (H3.o _ _ _ _ _ (r1.ext x2) r2).mono ?_;intro e w3 hN;obtain ⟨a3,c3,a4,c4,rfl,r3,f3,r4,f4,x3⟩:=id hN;obtain ⟨aM,bg,dv,bL,bM,eZ⟩:=aK A0 ((x1.trans x2).trans x3);have z0:=(A0.ext ((x1.trans x2).trans x3)).lt;go_wp2
 exact bodyPost_ret (by simp [results,results47,go_sem,aM,bg,dv]) rfl (eG.bt (hN.base (x1.trans x2)) x0 (Touch.three _ ae (by rw [Z0.o];omega) _ _ _))
theorem wZ (w:World) (x:Int) (h1: -9223372036854775808<=x) (h2:x<=9223372036854775807):
 Calls prog 47 #[.int .i64 x] w (bG (x:Rat) w):=
 vu w x _ _ _ _ _ _ _ (λV=>k9 V x h1 h2) (λV=>k9 V 1 aq aq)
  (λV a c b d hR Rs=>by
    have:=vT V (decide (x<0)) (decide ((1:Int)<0)) a b _ c _ d _ _ hR Rs (bA (kZ h1 h2)) aq;rw [show decide ((1:Int)<0)=false from rfl,Bool.bne_false,fc,show(Int.natAbs 1)=1 from rfl,Rat.mkRat_one]at this;exact this)
theorem Fp (w:World) (x y:Int) (s1 s2 s:Bool) (n1 n2 n m:Nat) (h1: ∀V,Calls prog 82 #[.int .i64 x] V (gV s1 n1 V)) (h2: ∀V,Calls prog 82 #[.int .i64 y] V (gV s2 n2 V))
 (h3: ∀V a c b d,Raw V a (len n1) c n1->Raw V b (len n2) d n2->Calls prog 81 #[.agg #[.bool s1,.slice a (len n1) c],.agg #[.bool s2,.slice b (len n2) d]] V (eG s n m V)):
 Calls prog 38 #[.int .i64 x,.int .i64 y] w (eG s n m w):=by
 have H1:=ah h1;have H2:=ah h2;have H3:=ah h3;clear h1 h2 h3
 go_enter func38,ntmps38
 go_wp2_with fail
 obtain ⟨W,hW,x0,Z0,A0⟩:=aV w 92 [.bool false,.slice none 0 0,.slice none 0 0];rw [<-hW];clear hW;obtain ⟨aM,bg,dv,bL,bM,eZ⟩:=aK A0 ar;have z0:=(A0.ext ar).lt;refine (H1.o _).mono ?_;rintro e w1 ⟨a1,c1,rfl,r1,f1,x1⟩;obtain ⟨aM,bg,dv,bL,bM,eZ⟩:=aK A0 x1;have z0:=(A0.ext x1).lt;go_wp2_with fail
 refine (H2.o _).mono ?_;rintro e w2 ⟨a2,c2,rfl,r2,f2,x2⟩;obtain ⟨aM,bg,dv,bL,bM,eZ⟩:=aK A0 (x1.trans x2);have z0:=(A0.ext (x1.trans x2)).lt;go_wp2_with fail
 refine (H3.o _ _ _ _ _ (r1.ext x2) r2).mono ?_;intro e w3 hN;obtain ⟨a3,c3,a4,c4,rfl,r3,f3,r4,f4,x3⟩:=id hN;obtain ⟨aM,bg,dv,bL,bM,eZ⟩:=aK A0 ((x1.trans x2).trans x3);have z0:=(A0.ext ((x1.trans x2).trans x3)).lt;go_wp2
 exact bodyPost_ret (by simp [results,results38,go_sem,aM,bg,dv]) rfl (eG.bt (hN.base (x1.trans x2)) x0 (Touch.three _ ae (by rw [Z0.o];omega) _ _ _))
theorem U1 (w:World) (x:Int) (y:Nat) (h1: -9223372036854775808<=x) (h2:x<=9223372036854775807) (h3:y<=9223372036854775807):
 Calls prog 38 #[.int .i64 x,.int .i64 (y:Nat)] w (bG (mkRat x y) w):=
 Fp w x y _ _ _ _ _ _ _ (λV=>k9 V x h1 h2) (λV=>k9 V y ae ae)
  (λV a c b d hR Rs=>by
    have:=vT V (decide (x<0)) (decide ((y:Int)<0)) a b _ c _ d _ _ hR Rs (bA (kZ h1 h2)) (bA (kZ (z:=(y:Int)) ae ae));rw [decide_eq_false (show¬(y:Int)<0 by omega),Bool.bne_false,fc,Int.natAbs_natCast]at this;rw [decide_eq_false (show¬(y:Int)<0 by omega),Int.natAbs_natCast];exact this)
theorem C5 (w:World) (s:Bool) (a b:Option Addr) (k c j d:Nat) (sP s1 sR:Bool) (nP dP n1 nR dR:Nat) (hN: ∀V,Ext w V->Calls prog 95 #[.agg #[.bool s,.slice a k c,.slice b j d]] V (eG sP nP dP V)) (hD: ∀V,Ext w V->Calls prog 157 #[.agg #[.bool s,.slice a k c,.slice b j d]] V (gV false dP V)) (hI: ∀V a c,Raw V a (len nP) c nP->Calls prog 140 #[.agg #[.bool sP,.slice a (len nP) c]] V (gV s1 n1 V)) (hM: ∀V a c b d,Raw V a (len n1) c n1->Raw V b (len dP) d dP->Calls prog 81 #[.agg #[.bool s1,.slice a (len n1) c],.agg #[.bool false,.slice b (len dP) d]] V (eG sR nR dR V)):
 Calls prog 154 #[.agg #[.bool s,.slice a k c,.slice b j d]] w (eG sR nR dR w):=by
 have HN:=ah hN;have HD:=ah hD;have HI:=ah hI;have HM:=ah hM;clear hN hD hI hM
 have YG:=Tryz.rat_num;have YF:=Tryz.rat_den;go_enter func154,ntmps154
 go_wp2_with fail
 obtain ⟨W,hW,x0,Z0,A0,A1⟩:=dZ w 92 [.bool s,.slice a k c,.slice b j d] 92 [.bool false,.slice none 0 0,.slice none 0 0];rw [<-hW];clear hW;obtain ⟨aM,bg,dv,bL,bM,eZ⟩:=aK A0 ar;have z0:=(A0.ext ar).lt;obtain ⟨aU,bq,et,cA,cC,gX⟩:=aK A1 ar;have z1:=(A1.ext ar).lt
 go_region_held3 (λw'=>w'.cell? ⟨w.heap.size,0,none⟩=some (.bool s)/\w'.cell? ⟨w.heap.size,1,none⟩=some (.slice a k c)/\w'.cell? ⟨w.heap.size,2,none⟩=some (.slice b j d)) (first|exact ⟨aM,bg,dv⟩|(simp [go_sem,aM,bg,dv])) (first
  |(go_at_call 95;refine (HN.o _ (by exact x0.trans (ar.drew))).mono ?_;rintro e w1 ⟨a1,c1,b1,d1,rfl,r1,f1,q1,g1,x1⟩;obtain ⟨aM,bg,dv,bL,bM,eZ⟩:=aK A0 ((ar.drew).trans x1);have z0:=(A0.ext ((ar.drew).trans x1)).lt;obtain ⟨aU,bq,et,cA,cC,gX⟩:=aK A1 ((ar.drew).trans x1);have z1:=(A1.ext ((ar.drew).trans x1)).lt)
  |(go_at_call 140;refine (HI.o _ _ _ r1).mono ?_;rintro e w2 ⟨a2,c2,rfl,r2,f2,x2⟩;obtain ⟨aM,bg,dv,bL,bM,eZ⟩:=aK A0 (((ar.drew).trans x1).trans x2);have z0:=(A0.ext (((ar.drew).trans x1).trans x2)).lt;obtain ⟨aU,bq,et,cA,cC,gX⟩:=aK A1 (((ar.drew).trans x1).trans x2);have z1:=(A1.ext (((ar.drew).trans x1).trans x2)).lt)
  |(go_at_call 157;refine (HD.o _ (by exact x0.trans (((ar.drew).trans x1).trans x2))).mono ?_;rintro e w3 ⟨a3,c3,rfl,r3,f3,x3⟩;obtain ⟨aM,bg,dv,bL,bM,eZ⟩:=aK A0 ((((ar.drew).trans x1).trans x2).trans x3);have z0:=(A0.ext ((((ar.drew).trans x1).trans x2).trans x3)).lt;obtain ⟨aU,bq,et,cA,cC,gX⟩:=aK A1 ((((ar.drew).trans x1).trans x2).trans x3);have z1:=(A1.ext ((((ar.drew).trans x1).trans x2).trans x3)).lt)
  |(go_at_call 81;refine (HM.o _ _ _ _ _ (r2.ext x3) r3).mono ?_;intro e w4 lL;obtain ⟨a4,c4,b4,d4,rfl,r4,f4,q4,g4,x4⟩:=id lL;obtain ⟨aM,bg,dv,bL,bM,eZ⟩:=aK A0 (((((ar.drew).trans x1).trans x2).trans x3).trans x4);have z0:=(A0.ext (((((ar.drew).trans x1).trans x2).trans x3).trans x4)).lt;obtain ⟨aU,bq,et,cA,cC,gX⟩:=aK A1 (((((ar.drew).trans x1).trans x2).trans x3).trans x4);have z1:=(A1.ext (((((ar.drew).trans x1).trans x2).trans x3).trans x4)).lt))
 go_wp2
 exact bodyPost_ret (by simp [results,results154,go_sem,aU,bq,et]) rfl (eG.bt (lL.base ((x1.trans x2).trans x3)) x0.drew (Touch.three _ ae (by rw [World.drew,Z0.o];omega) _ _ _))
theorem zC {w:World} {b:Nat} {p:Addr} {x v0 v1 v2:Value} (h:w.cell? p=some x) (hb:p.block≠b):(((w.setCell ⟨b,0,none⟩ v0).setCell ⟨b,1,none⟩ v1).setCell ⟨b,2,none⟩ v2).cell? p=some x:=by
 rw [World.cell?_setCell_other _ _ _ _ (by intro e;exact hb (by rw [<-e])),World.cell?_setCell_other _ _ _ _ (by intro e;exact hb (by rw [<-e])),World.cell?_setCell_other _ _ _ _ (by intro e;exact hb (by rw [<-e])),h]
theorem C9 {w:World} {o:Obj} {p:Addr} {x:Value} (h:w.cell? p=some x):(w.alloc o).cell? p=some x:=aC (ar.alloc _) h
theorem w_ {w:World} {p:Addr} {x:Value} (h:w.cell? p=some x):w.drew.cell? p=some x:=h
theorem Raw.alloc' {w:World} {a:Option Addr} {k c n:Nat} (h:Raw w a k c n) (o:Obj):Raw (w.alloc o) a k c n:=h.ext (ar.alloc _)
theorem aT.alloc' {w:World} {b:Nat} {T:TypeId} {vs:List Value} (h:aT w b T vs) (o:Obj):aT (w.alloc o) b T vs:=h.ext (ar.alloc _)
theorem aT.Fq (w:World) (o:Obj) (T:TypeId) (vs:List Value):aT ((w.alloc o).alloc (.cells vs.toArray T)) (w.heap.size+1) T vs:=by
 have h:=aT.alloc (w.alloc o) T vs;rw [show(w.alloc o).heap.size=w.heap.size+1 from by simp]at h;exact h
theorem aT.alloc_at {w:World} {b:Nat} (T:TypeId) (vs:List Value) (_:Unit) (h:w.heap.size=b):aT (w.alloc (.cells vs.toArray T)) b T vs:=h▸aT.alloc w T vs
theorem aT.AR {w:World} {b:Nat} {T:TypeId} {x y z:Value} (h:aT w b T [x,y,z]) (u v t:Value):aT (((w.setCell ⟨b,0,none⟩ u).setCell ⟨b,1,none⟩ v).setCell ⟨b,2,none⟩ t) b T [u,v,t]:=((h.set 0 u).set 1 v).set 2 t
theorem aT.Fs {w:World} {b b':Nat} {T:TypeId} {vs:List Value} (h:aT w b T vs) (u v t:Value) (hb:b'≠b):aT (((w.setCell ⟨b',0,none⟩ u).setCell ⟨b',1,none⟩ v).setCell ⟨b',2,none⟩ t) b T vs:=((h.other _ _ hb).other _ _ hb).other _ _ hb
theorem C_ (w:World) (s:Bool) (a b:Option Addr) (k c j d:Nat) (s':Bool) (a' b':Option Addr) (k' c' j' d':Nat) (sP sQ s1 s2 s3 s4 sR:Bool) (nP dP nQ dQ n1 n2 n3 n4 nR dR:Nat) (hN: ∀V,Ext w V->Calls prog 95 #[.agg #[.bool s,.slice a k c,.slice b j d]] V (eG sP nP dP V)) (YH: ∀V,Ext w V->Calls prog 95 #[.agg #[.bool s',.slice a' k' c',.slice b' j' d']] V (eG sQ nQ dQ V)) (hD: ∀V,Ext w V->Calls prog 157 #[.agg #[.bool s,.slice a k c,.slice b j d]] V (gV false dP V)) (QL: ∀V,Ext w V->Calls prog 157 #[.agg #[.bool s',.slice a' k' c',.slice b' j' d']] V (gV false dQ V)) (hX: ∀V a c b d,Raw V a (len nP) c nP->Raw V b (len dQ) d dQ->Calls prog 156 #[.agg #[.bool sP,.slice a (len nP) c],.agg #[.bool false,.slice b (len dQ) d]] V (gV s1 n1 V)) (hY: ∀V a c b d,Raw V a (len nQ) c nQ->Raw V b (len dP) d dP->Calls prog 156 #[.agg #[.bool sQ,.slice a (len nQ) c],.agg #[.bool false,.slice b (len dP) d]] V (gV s2 n2 V)) (hA: ∀V a c b d,Raw V a (len n1) c n1->Raw V b (len n2) d n2->Calls prog 155 #[.agg #[.bool s1,.slice a (len n1) c],.agg #[.bool s2,.slice b (len n2) d]] V (gV s3 n3 V)) (hZ: ∀V a c b d,Raw V a (len dP) c dP->Raw V b (len dQ) d dQ->Calls prog 156 #[.agg #[.bool false,.slice a (len dP) c],.agg #[.bool false,.slice b (len dQ) d]] V (gV s4 n4 V)) (hM: ∀V a c b d,Raw V a (len n3) c n3->Raw V b (len n4) d n4->Calls prog 81 #[.agg #[.bool s3,.slice a (len n3) c],.agg #[.bool s4,.slice b (len n4) d]] V (eG sR nR dR V)):
 Calls prog 98 #[.agg #[.bool s,.slice a k c,.slice b j d],.agg #[.bool s',.slice a' k' c',.slice b' j' d']] w (eG sR nR dR w):=by
 have HN:=ah hN;have HN':=ah YH;have HD:=ah hD;have ZV:=ah QL;have HX:=ah hX;have HY:=ah hY;have HA:=ah hA;have HZ:=ah hZ;have HM:=ah hM;clear hN YH hD QL hX hY hA hZ hM
 have YG:=Tryz.rat_num;have YF:=Tryz.rat_den;go_enter func98,ntmps98
 go_wp2_with fail
 obtain ⟨W,hW,x0,Z0,A0,A1,A2⟩:=fC w 92 [.bool s,.slice a k c,.slice b j d] 92 [.bool s',.slice a' k' c',.slice b' j' d'] 92 [.bool false,.slice none 0 0,.slice none 0 0];rw [<-hW];clear hW;obtain ⟨aM,bg,dv,bL,bM,eZ⟩:=aK A0 ar;have z0:=(A0.ext ar).lt;obtain ⟨aU,bq,et,cA,cC,gX⟩:=aK A1 ar;have z1:=(A1.ext ar).lt;obtain ⟨bK,cD,gj,cT,cU,ik⟩:=aK A2 ar;have z2:=(A2.ext ar).lt;have sW0:w.heap.size<W.heap.size:=by rw [Z0.o];omega
 have sW1:w.heap.size+1<W.heap.size:=by rw [Z0.o];omega
 clear bL bM eZ cA cC gX cT cU ik bK cD gj z2;have YI:True:=trivial;go_cut [5,6] (λs5 s6 wx=> ∃(g5 g6:Nat) (a1 b1 a2 b2:Option Addr) (c1 d1 c2 d2:Nat),s5= .pointer (some ⟨g5,0,none⟩)/\s6= .pointer (some ⟨g6,0,none⟩)/\W.heap.size<=g5/\W.heap.size<=g6/\Hid (aT wx g5 92 [.bool sP,.slice a1 (len nP) c1,.slice b1 (len dP) d1])/\Hid (aT wx g6 92 [.bool sQ,.slice a2 (len nQ) c2,.slice b2 (len dQ) d2])/\Raw wx a1 (len nP) c1 nP/\Raw wx a2 (len nQ) c2 nQ/\Ext W wx)
 case first=>
  go_region_held3 (λw'=>w'.cell? ⟨w.heap.size,0,none⟩=some (.bool s)/\w'.cell? ⟨w.heap.size,1,none⟩=some (.slice a k c)/\w'.cell? ⟨w.heap.size,2,none⟩=some (.slice b j d)/\w'.cell? ⟨w.heap.size+1,0,none⟩=some (.bool s')/\w'.cell? ⟨w.heap.size+1,1,none⟩=some (.slice a' k' c')/\w'.cell? ⟨w.heap.size+1,2,none⟩=some (.slice b' j' d')) (first|with_reducible exact ⟨aM,bg,dv,aU,bq,et⟩|(refine ⟨?_,?_,?_,?_,?_,?_⟩<;>(repeat(with_reducible first|exact aM|exact bg|exact dv|exact aU|exact bq|exact et|refine zC ?_ (by simp only;omega)|refine C9 ?_|refine w_ ?_)))) (first
   |(go_at_call 95;have _t:=YI;(with_reducible refine (HN.o _ (by repeat(first|exact x0|exact ar|refine Ext.drew ?_|refine Ext.alloc ?_ _))).mono ?_);rintro e w1 ⟨a1,c1,b1,d1,rfl,r1,f1,q1,g1,x1⟩;clear YI _t;have v1:Ext W w1:=(by refine Ext.trans ?_ x1;repeat(with_reducible first|exact ar|refine Ext.drew ?_|refine Ext.alloc ?_ _));clear aM bg dv aU bq et;obtain ⟨aM,bg,dv,-,-,-⟩:=aK A0 v1;obtain ⟨aU,bq,et,-,-,-⟩:=aK A1 v1;have z0:=(A0.ext v1).lt;have z1:=(A1.ext v1).lt;(first|(have y1:Ext ((W.alloc (.cells #[.bool false,.slice none 0 0,.slice none 0 0] 92)).alloc (.cells #[.bool false,.slice none 0 0,.slice none 0 0] 92)) w1:=(by with_reducible exact Ext.trans (Ext.drew ar) x1);have RC:aT w1 (W.heap.size+1) 92 [.bool false,.slice none 0 0,.slice none 0 0]:=(aT.Fq W (.cells #[.bool false,.slice none 0 0,.slice none 0 0] 92) 92 [.bool false,.slice none 0 0,.slice none 0 0]).ext y1;have RB:aT w1 W.heap.size 92 [.bool false,.slice none 0 0,.slice none 0 0]:=((aT.alloc W 92 [.bool false,.slice none 0 0,.slice none 0 0]).ext (ar.alloc (.cells #[.bool false,.slice none 0 0,.slice none 0 0] 92))).ext y1;obtain ⟨m0,m1,m2,m3,m4,m5⟩:=aK RB ar;have mz:=RB.lt;obtain ⟨l0,l1,l2,l3,l4,l5⟩:=aK RC ar;have lz:=RC.lt)|(have y1:Ext (W.alloc (.cells #[.bool false,.slice none 0 0,.slice none 0 0] 92)) w1:=(by with_reducible exact Ext.trans (Ext.drew ar) x1);have RB:aT w1 W.heap.size 92 [.bool false,.slice none 0 0,.slice none 0 0]:=(aT.alloc W 92 [.bool false,.slice none 0 0,.slice none 0 0]).ext y1;obtain ⟨m0,m1,m2,m3,m4,m5⟩:=aK RB ar;have mz:=RB.lt)|skip))
   |(go_at_call 95;(with_reducible refine (HN'.o _ (by refine x0.trans ?_;repeat(first|exact v1|refine Ext.drew ?_|refine Ext.alloc ?_ _))).mono ?_);rintro e w2 ⟨a2,c2,b2,d2,rfl,r2,f2,q2,g2,x2⟩;have v2:Ext W w2:=(by refine Ext.trans ?_ x2;repeat(with_reducible first|exact v1|refine Ext.drew ?_|refine Ext.alloc ?_ _));clear aM bg dv aU bq et;obtain ⟨aM,bg,dv,-,-,-⟩:=aK A0 v2;obtain ⟨aU,bq,et,-,-,-⟩:=aK A1 v2;have z0:=(A0.ext v2).lt;have z1:=(A1.ext v2).lt;(first|(have RB:=RB.ext (by with_reducible exact x2);have RC:=RC.ext x2;obtain ⟨m0,m1,m2,m3,m4,m5⟩:=aK RB ar;have mz:=RB.lt;obtain ⟨l0,l1,l2,l3,l4,l5⟩:=aK RC ar;have lz:=RC.lt)|(have y1:Ext (w1.alloc (.cells #[.bool false,.slice none 0 0,.slice none 0 0] 92)) w2:=(by with_reducible exact x2);have nn1:=RB.lt;have RC:aT w2 w1.heap.size 92 [.bool false,.slice none 0 0,.slice none 0 0]:=(aT.alloc w1 92 [.bool false,.slice none 0 0,.slice none 0 0]).ext y1;have RB:=RB.ext (Ext.trans (ar.alloc (.cells #[.bool false,.slice none 0 0,.slice none 0 0] 92)) y1);obtain ⟨m0,m1,m2,m3,m4,m5⟩:=aK RB ar;have mz:=RB.lt;obtain ⟨l0,l1,l2,l3,l4,l5⟩:=aK RC ar;have lz:=RC.lt)|(have RB:=RB.ext (by with_reducible exact x2);obtain ⟨m0,m1,m2,m3,m4,m5⟩:=aK RB ar;have mz:=RB.lt)|(have y1:Ext ((w1.alloc (.cells #[.bool false,.slice none 0 0,.slice none 0 0] 92)).alloc (.cells #[.bool false,.slice none 0 0,.slice none 0 0] 92)) w2:=(by with_reducible exact x2);have RC:aT w2 (w1.heap.size+1) 92 [.bool false,.slice none 0 0,.slice none 0 0]:=(aT.Fq w1 (.cells #[.bool false,.slice none 0 0,.slice none 0 0] 92) 92 [.bool false,.slice none 0 0,.slice none 0 0]).ext y1;have RB:aT w2 w1.heap.size 92 [.bool false,.slice none 0 0,.slice none 0 0]:=((aT.alloc w1 92 [.bool false,.slice none 0 0,.slice none 0 0]).ext (ar.alloc (.cells #[.bool false,.slice none 0 0,.slice none 0 0] 92))).ext y1;obtain ⟨m0,m1,m2,m3,m4,m5⟩:=aK RB ar;have mz:=RB.lt;obtain ⟨l0,l1,l2,l3,l4,l5⟩:=aK RC ar;have lz:=RC.lt)|(have y1:Ext (w1.alloc (.cells #[.bool false,.slice none 0 0,.slice none 0 0] 92)) w2:=(by with_reducible exact x2);have RB:aT w2 w1.heap.size 92 [.bool false,.slice none 0 0,.slice none 0 0]:=(aT.alloc w1 92 [.bool false,.slice none 0 0,.slice none 0 0]).ext y1;obtain ⟨m0,m1,m2,m3,m4,m5⟩:=aK RB ar;have mz:=RB.lt)|skip)))
  all_goals go_wp2_with fail
  all_goals go_meet
  all_goals have sz1:=x1.size
  all_goals have sz2:=x2.size
  all_goals simp at sz1 sz2
  all_goals refine ⟨_,_,a1,b1,a2,b2,c1,d1,c2,d2,rfl,rfl,?_,?_,?_,?_,?_,?_,?_⟩
  all_goals have y2:Ext w1 w2:=(by refine Ext.trans ?_ x2;repeat(with_reducible first|exact ar|refine Ext.drew ?_|refine Ext.alloc ?_ _))
  all_goals have p1:=r1.ext y2
  all_goals have o1:=v1.size
  all_goals have o2:=y2.size
  all_goals first
   |(with_reducible refine ah ?_;(repeat(with_reducible first|exact aT.alloc _ _ _|exact aT.Fq _ _ _ _|(refine aT.alloc_at _ _ () ?_;simp;done)|exact RB|exact RC|exact RB.AR _ _ _|exact RC.AR _ _ _|(refine (RB.Fs _ _ _ ?_).AR _ _ _;omega)|(refine (RC.Fs _ _ _ ?_).AR _ _ _;omega)|(refine aT.Fs ?_ _ _ _ ?_;rotate_left;(·omega))|refine aT.alloc' ?_ _));done)
   |((repeat(with_reducible first|exact p1|refine Raw.alloc' ?_ _|(refine Raw.setCell ?_ _ _ (f1.ne ?_);rotate_left;(·first|(simp;done)|(simp only;omega)|(simp;omega)))|(refine Raw.QW r1 ?_ _ _ ?_;rotate_left;(·first|(simp;done)|(simp only;omega)|(simp;omega)))));done)
   |((repeat(with_reducible first|exact r2|refine Raw.alloc' ?_ _|(refine Raw.setCell ?_ _ _ (f2.ne ?_);rotate_left;(·first|(simp;done)|(simp only;omega)|(simp;omega)))));done)
   |((repeat(with_reducible first|exact v2|refine Ext.alloc ?_ _|(refine Ext.setCell ?_ ?_ _;rotate_left;(·first|(simp;done)|(simp only;omega)|(simp;omega)))));done)
   |omega
 case rest=>
  obtain ⟨g5,g6,a1,b1,a2,b2,c1,d1,c2,d2,rfl,rfl,s5,s6,G5,G6,r1,r2,hx⟩:=hcut;have n5:w.heap.size+3<=g5:=bA Z0.o;have n6:w.heap.size+3<=g6:=bA Z0.o;clear aM bg dv aU bq et z0 z1;obtain ⟨aM,bg,dv,bL,bM,eZ⟩:=aK A0 hx;have z0:=(A0.ext hx).lt;obtain ⟨aU,bq,et,cA,cC,gX⟩:=aK A1 hx;have z1:=(A1.ext hx).lt;obtain ⟨bK,cD,gj,cT,cU,ik⟩:=aK A2 hx;have z2:=(A2.ext hx).lt;obtain ⟨m0,m1,m2,-,-,-⟩:=aK G5.o ar;obtain ⟨l0,l1,l2,-,-,-⟩:=aK G6.o ar;have tk3:True:=trivial;have tk4:True:=trivial;have tk5:True:=trivial;have tk6:True:=trivial;have tk8:True:=trivial;go_wp2_with fail
  go_region_held3 (λw'=>w'.cell? ⟨w.heap.size,0,none⟩=some (.bool s)/\w'.cell? ⟨w.heap.size,1,none⟩=some (.slice a k c)/\w'.cell? ⟨w.heap.size,2,none⟩=some (.slice b j d)/\w'.cell? ⟨w.heap.size+1,0,none⟩=some (.bool s')/\w'.cell? ⟨w.heap.size+1,1,none⟩=some (.slice a' k' c')/\w'.cell? ⟨w.heap.size+1,2,none⟩=some (.slice b' j' d')/\w'.cell? ⟨g5,0,none⟩=some (.bool sP)/\w'.cell? ⟨g5,1,none⟩=some (.slice a1 (len nP) c1)/\w'.cell? ⟨g6,0,none⟩=some (.bool sQ)/\w'.cell? ⟨g6,1,none⟩=some (.slice a2 (len nQ) c2)) (first|with_reducible exact ⟨aM,bg,dv,aU,bq,et,m0,m1,l0,l1⟩|(refine ⟨?_,?_,?_,?_,?_,?_,?_,?_,?_,?_⟩<;>(repeat(with_reducible first|exact aM|exact bg|exact dv|exact aU|exact bq|exact et|exact m0|exact m1|exact l0|exact l1|refine w_ ?_|(refine zC ?_ ?_;rotate_left;(·simp only;omega)))))) (first
   |(go_at_call 157;have _t:=tk3;refine (ZV.o _ (x0.trans hx.drew)).mono ?_;rintro e w3 ⟨a3,c3,rfl,r3,f3,x3⟩;clear tk3 _t;obtain ⟨aM,bg,dv,bL,bM,eZ⟩:=aK A0 (hx.drew.trans x3);have z0:=(A0.ext (hx.drew.trans x3)).lt;obtain ⟨aU,bq,et,cA,cC,gX⟩:=aK A1 (hx.drew.trans x3);have z1:=(A1.ext (hx.drew.trans x3)).lt;obtain ⟨bK,cD,gj,cT,cU,ik⟩:=aK A2 (hx.drew.trans x3);have z2:=(A2.ext (hx.drew.trans x3)).lt;obtain ⟨m0,m1,m2,-,-,-⟩:=aK G5.o ((ar.drew).trans x3);obtain ⟨l0,l1,l2,-,-,-⟩:=aK G6.o ((ar.drew).trans x3))
   |(go_at_call 156;have _t:=tk4;refine (HX.o _ _ _ _ _ (r1.ext ((ar.drew).trans x3)) r3).mono ?_;rintro e w4 ⟨a4,c4,rfl,r4,f4,x4⟩;clear tk4 _t;obtain ⟨aM,bg,dv,bL,bM,eZ⟩:=aK A0 ((hx.drew.trans x3).trans x4);have z0:=(A0.ext ((hx.drew.trans x3).trans x4)).lt;obtain ⟨aU,bq,et,cA,cC,gX⟩:=aK A1 ((hx.drew.trans x3).trans x4);have z1:=(A1.ext ((hx.drew.trans x3).trans x4)).lt;obtain ⟨bK,cD,gj,cT,cU,ik⟩:=aK A2 ((hx.drew.trans x3).trans x4);have z2:=(A2.ext ((hx.drew.trans x3).trans x4)).lt;obtain ⟨m0,m1,m2,-,-,-⟩:=aK G5.o (((ar.drew).trans x3).trans x4);obtain ⟨l0,l1,l2,-,-,-⟩:=aK G6.o (((ar.drew).trans x3).trans x4))
   |(go_at_call 157;have _t:=tk5;refine (HD.o _ (x0.trans ((hx.drew.trans x3).trans x4))).mono ?_;rintro e w5 ⟨a5,c5,rfl,r5,f5,x5⟩;clear tk5 _t;obtain ⟨aM,bg,dv,bL,bM,eZ⟩:=aK A0 (((hx.drew.trans x3).trans x4).trans x5);have z0:=(A0.ext (((hx.drew.trans x3).trans x4).trans x5)).lt;obtain ⟨aU,bq,et,cA,cC,gX⟩:=aK A1 (((hx.drew.trans x3).trans x4).trans x5);have z1:=(A1.ext (((hx.drew.trans x3).trans x4).trans x5)).lt;obtain ⟨bK,cD,gj,cT,cU,ik⟩:=aK A2 (((hx.drew.trans x3).trans x4).trans x5);have z2:=(A2.ext (((hx.drew.trans x3).trans x4).trans x5)).lt;obtain ⟨m0,m1,m2,-,-,-⟩:=aK G5.o ((((ar.drew).trans x3).trans x4).trans x5);obtain ⟨l0,l1,l2,-,-,-⟩:=aK G6.o ((((ar.drew).trans x3).trans x4).trans x5))
   |(go_at_call 156;have _t:=tk6;refine (HY.o _ _ _ _ _ (r2.ext ((((ar.drew).trans x3).trans x4).trans x5)) r5).mono ?_;rintro e w6 ⟨a6,c6,rfl,r6,f6,x6⟩;clear tk6 _t;obtain ⟨aM,bg,dv,bL,bM,eZ⟩:=aK A0 ((((hx.drew.trans x3).trans x4).trans x5).trans x6);have z0:=(A0.ext ((((hx.drew.trans x3).trans x4).trans x5).trans x6)).lt;obtain ⟨aU,bq,et,cA,cC,gX⟩:=aK A1 ((((hx.drew.trans x3).trans x4).trans x5).trans x6);have z1:=(A1.ext ((((hx.drew.trans x3).trans x4).trans x5).trans x6)).lt;obtain ⟨bK,cD,gj,cT,cU,ik⟩:=aK A2 ((((hx.drew.trans x3).trans x4).trans x5).trans x6);have z2:=(A2.ext ((((hx.drew.trans x3).trans x4).trans x5).trans x6)).lt;obtain ⟨m0,m1,m2,-,-,-⟩:=aK G5.o (((((ar.drew).trans x3).trans x4).trans x5).trans x6);obtain ⟨l0,l1,l2,-,-,-⟩:=aK G6.o (((((ar.drew).trans x3).trans x4).trans x5).trans x6))
   |(go_at_call 155;refine (HA.o _ _ _ _ _ ((r4.ext x5).ext x6) r6).mono ?_;rintro e w7 ⟨a7,c7,rfl,r7,f7,x7⟩;obtain ⟨aM,bg,dv,bL,bM,eZ⟩:=aK A0 (((((hx.drew.trans x3).trans x4).trans x5).trans x6).trans x7);have z0:=(A0.ext (((((hx.drew.trans x3).trans x4).trans x5).trans x6).trans x7)).lt;obtain ⟨aU,bq,et,cA,cC,gX⟩:=aK A1 (((((hx.drew.trans x3).trans x4).trans x5).trans x6).trans x7);have z1:=(A1.ext (((((hx.drew.trans x3).trans x4).trans x5).trans x6).trans x7)).lt;obtain ⟨bK,cD,gj,cT,cU,ik⟩:=aK A2 (((((hx.drew.trans x3).trans x4).trans x5).trans x6).trans x7);have z2:=(A2.ext (((((hx.drew.trans x3).trans x4).trans x5).trans x6).trans x7)).lt;obtain ⟨m0,m1,m2,-,-,-⟩:=aK G5.o ((((((ar.drew).trans x3).trans x4).trans x5).trans x6).trans x7);obtain ⟨l0,l1,l2,-,-,-⟩:=aK G6.o ((((((ar.drew).trans x3).trans x4).trans x5).trans x6).trans x7))
   |(go_at_call 157;have _t:=tk8;refine (HD.o _ (x0.trans (((((hx.drew.trans x3).trans x4).trans x5).trans x6).trans x7))).mono ?_;rintro e w8 ⟨a8,c8,rfl,r8,f8,x8⟩;clear tk8 _t;obtain ⟨aM,bg,dv,bL,bM,eZ⟩:=aK A0 ((((((hx.drew.trans x3).trans x4).trans x5).trans x6).trans x7).trans x8);have z0:=(A0.ext ((((((hx.drew.trans x3).trans x4).trans x5).trans x6).trans x7).trans x8)).lt;obtain ⟨aU,bq,et,cA,cC,gX⟩:=aK A1 ((((((hx.drew.trans x3).trans x4).trans x5).trans x6).trans x7).trans x8);have z1:=(A1.ext ((((((hx.drew.trans x3).trans x4).trans x5).trans x6).trans x7).trans x8)).lt;obtain ⟨bK,cD,gj,cT,cU,ik⟩:=aK A2 ((((((hx.drew.trans x3).trans x4).trans x5).trans x6).trans x7).trans x8);have z2:=(A2.ext ((((((hx.drew.trans x3).trans x4).trans x5).trans x6).trans x7).trans x8)).lt;obtain ⟨m0,m1,m2,-,-,-⟩:=aK G5.o (((((((ar.drew).trans x3).trans x4).trans x5).trans x6).trans x7).trans x8);obtain ⟨l0,l1,l2,-,-,-⟩:=aK G6.o (((((((ar.drew).trans x3).trans x4).trans x5).trans x6).trans x7).trans x8))
   |(go_at_call 157;refine (ZV.o _ (x0.trans ((((((hx.drew.trans x3).trans x4).trans x5).trans x6).trans x7).trans x8))).mono ?_;rintro e w9 ⟨a9,c9,rfl,r9,f9,x9⟩;obtain ⟨aM,bg,dv,bL,bM,eZ⟩:=aK A0 (((((((hx.drew.trans x3).trans x4).trans x5).trans x6).trans x7).trans x8).trans x9);have z0:=(A0.ext (((((((hx.drew.trans x3).trans x4).trans x5).trans x6).trans x7).trans x8).trans x9)).lt;obtain ⟨aU,bq,et,cA,cC,gX⟩:=aK A1 (((((((hx.drew.trans x3).trans x4).trans x5).trans x6).trans x7).trans x8).trans x9);have z1:=(A1.ext (((((((hx.drew.trans x3).trans x4).trans x5).trans x6).trans x7).trans x8).trans x9)).lt;obtain ⟨bK,cD,gj,cT,cU,ik⟩:=aK A2 (((((((hx.drew.trans x3).trans x4).trans x5).trans x6).trans x7).trans x8).trans x9);have z2:=(A2.ext (((((((hx.drew.trans x3).trans x4).trans x5).trans x6).trans x7).trans x8).trans x9)).lt;obtain ⟨m0,m1,m2,-,-,-⟩:=aK G5.o ((((((((ar.drew).trans x3).trans x4).trans x5).trans x6).trans x7).trans x8).trans x9);obtain ⟨l0,l1,l2,-,-,-⟩:=aK G6.o ((((((((ar.drew).trans x3).trans x4).trans x5).trans x6).trans x7).trans x8).trans x9))
   |(go_at_call 156;refine (HZ.o _ _ _ _ _ (r8.ext x9) r9).mono ?_;rintro e Ci ⟨Fc,c10,rfl,U0,f10,vU⟩;obtain ⟨aM,bg,dv,bL,bM,eZ⟩:=aK A0 ((((((((hx.drew.trans x3).trans x4).trans x5).trans x6).trans x7).trans x8).trans x9).trans vU);have z0:=(A0.ext ((((((((hx.drew.trans x3).trans x4).trans x5).trans x6).trans x7).trans x8).trans x9).trans vU)).lt;obtain ⟨aU,bq,et,cA,cC,gX⟩:=aK A1 ((((((((hx.drew.trans x3).trans x4).trans x5).trans x6).trans x7).trans x8).trans x9).trans vU);have z1:=(A1.ext ((((((((hx.drew.trans x3).trans x4).trans x5).trans x6).trans x7).trans x8).trans x9).trans vU)).lt;obtain ⟨bK,cD,gj,cT,cU,ik⟩:=aK A2 ((((((((hx.drew.trans x3).trans x4).trans x5).trans x6).trans x7).trans x8).trans x9).trans vU);have z2:=(A2.ext ((((((((hx.drew.trans x3).trans x4).trans x5).trans x6).trans x7).trans x8).trans x9).trans vU)).lt;obtain ⟨m0,m1,m2,-,-,-⟩:=aK G5.o (((((((((ar.drew).trans x3).trans x4).trans x5).trans x6).trans x7).trans x8).trans x9).trans vU);obtain ⟨l0,l1,l2,-,-,-⟩:=aK G6.o (((((((((ar.drew).trans x3).trans x4).trans x5).trans x6).trans x7).trans x8).trans x9).trans vU))
   |(go_at_call 81;refine (HM.o _ _ _ _ _ (((r7.ext x8).ext x9).ext vU) U0).mono ?_;intro e w11 lL;obtain ⟨a11,c11,b11,d11,rfl,r11,f11,q11,g11,vV⟩:=id lL;obtain ⟨aM,bg,dv,bL,bM,eZ⟩:=aK A0 (((((((((hx.drew.trans x3).trans x4).trans x5).trans x6).trans x7).trans x8).trans x9).trans vU).trans vV);have z0:=(A0.ext (((((((((hx.drew.trans x3).trans x4).trans x5).trans x6).trans x7).trans x8).trans x9).trans vU).trans vV)).lt;obtain ⟨aU,bq,et,cA,cC,gX⟩:=aK A1 (((((((((hx.drew.trans x3).trans x4).trans x5).trans x6).trans x7).trans x8).trans x9).trans vU).trans vV);have z1:=(A1.ext (((((((((hx.drew.trans x3).trans x4).trans x5).trans x6).trans x7).trans x8).trans x9).trans vU).trans vV)).lt;obtain ⟨bK,cD,gj,cT,cU,ik⟩:=aK A2 (((((((((hx.drew.trans x3).trans x4).trans x5).trans x6).trans x7).trans x8).trans x9).trans vU).trans vV);have z2:=(A2.ext (((((((((hx.drew.trans x3).trans x4).trans x5).trans x6).trans x7).trans x8).trans x9).trans vU).trans vV)).lt;obtain ⟨m0,m1,m2,-,-,-⟩:=aK G5.o ((((((((((ar.drew).trans x3).trans x4).trans x5).trans x6).trans x7).trans x8).trans x9).trans vU).trans vV);obtain ⟨l0,l1,l2,-,-,-⟩:=aK G6.o ((((((((((ar.drew).trans x3).trans x4).trans x5).trans x6).trans x7).trans x8).trans x9).trans vU).trans vV)))
  go_wp2
  exact bodyPost_ret (by simp [results,results98,go_sem,bK,cD,gj]) rfl (eG.Rq (lL.base (((((((x3.trans x4).trans x5).trans x6).trans x7).trans x8).trans x9).trans vU)) x0 hx.drew (Touch.three _ ae (by rw [Z0.o];omega) _ _ _))
theorem Da (V:World) (s1 t:Bool) (n1 n2:Nat) (R:Rat) (hR:mkRat (bp (s1 !=t) n1) n2=R) (b1:len n1<900000000) (b2:len n2<900000000) (a:Option Addr) (c:Nat) (b:Option Addr) (d:Nat) (h:Raw V a (len n1) c n1) (h':Raw V b (len n2) d n2):
 Calls prog 81 #[.agg #[.bool s1,.slice a (len n1) c],.agg #[.bool t,.slice b (len n2) d]] V (eG (decide (R.num<0)) R.num.natAbs R.den V):=by
 have:=vT V s1 t a b _ c _ d n1 n2 h h' b1 b2;rw [hR]at this;exact this
theorem tT (V:World) (s1 t:Bool) (n1 n2:Nat) (z:Int) (hz:bp s1 n1*bp t n2=z) (b1:len n1<1000000000) (b2:len n2<1000000000) (a:Option Addr) (c:Nat) (b:Option Addr) (d:Nat) (h:Raw V a (len n1) c n1) (h':Raw V b (len n2) d n2):
 Calls prog 156 #[.agg #[.bool s1,.slice a (len n1) c],.agg #[.bool t,.slice b (len n2) d]] V (gV (decide (z<0)) z.natAbs V):=by
 have:=Rh V s1 t a b _ c _ d n1 n2 h h' b1 b2;rw [hz]at this;exact this
theorem IK (V:World) (s1 t:Bool) (n1 n2:Nat) (z:Int) (hz:bp s1 n1+bp t n2=z) (b1:len n1<1000000000) (b2:len n2<1000000000) (a:Option Addr) (c:Nat) (b:Option Addr) (d:Nat) (h:Raw V a (len n1) c n1) (h':Raw V b (len n2) d n2):
 Calls prog 155 #[.agg #[.bool s1,.slice a (len n1) c],.agg #[.bool t,.slice b (len n2) d]] V (gV (decide (z<0)) z.natAbs V):=by
 have:=Bh V s1 t a b _ c _ d n1 n2 h h' b1 b2;rw [hz]at this;exact this
theorem rO (s:Bool) (n m:Nat) {k j:Nat} (h1:len n<=k) (h2:len m<=j) (b1:k<200000000) (b2:j<200000000):len (mkRat (bp s n) m).num.natAbs<200000000/\len (mkRat (bp s n) m).den<200000000:=by
 have h:=kO (bp s n) m;rw [bF]at h;have h3:=m_ (mkRat (bp s n) m);have h4:=na (mkRat (bp s n) m);omega
theorem Rt (w:World) (s:Bool) (a b:Option Addr) (k c j d n m:Nat) (h:Raw w a k c n) (g:Raw w b j d m) (b1:k<200000000) (b2:j<200000000):Calls prog 154 #[.agg #[.bool s,.slice a k c,.slice b j d]] w (bG (-(mkRat (bp s n) m)) w):=by
 obtain ⟨l1,l2⟩:=rO s n m h.cI g.cI b1 b2;have hN:=λV (hV:Ext w V)=>(rM V s a b k c j d n m (h.ext hV) (g.ext hV) b1 b2).mono (λ_ _ hh=>hh.wY);have hD:=λV (hV:Ext w V)=>Fm V s a b k c j d n m (h.ext hV) (g.ext hV) b1 b2;generalize mkRat (bp s n) m=P at*;refine (C5 w s a b k c j d _ (decide (-P.num<0)) _ _ _ (-P.num).natAbs _ _ hN hD ?_ (λV a c b d h1 h2=>Da V _ _ _ _ (-P) ?_ ?_ ?_ a c b d h1 h2)).mono (λ_ _ hh=>hh.Ba)
 .intro V a c hR
  have:=Be V (decide (P.num<0)) a _ c _ hR;rw [fc]at this;exact this
 .rw [Bool.bne_false,fc,<-Rat.neg_mkRat,Rat.mkRat_self]
 .rw [Int.natAbs_neg];omega
 .omega
theorem xd {x y:Nat} (h1:len x<200000000) (h2:len y<200000000):len (x*y)<400000000:=by
 have:=kI x y;omega
theorem K7 (w:World) (s:Bool) (a b:Option Addr) (k c j d n m:Nat) (h:Raw w a k c n) (g:Raw w b j d m) (s':Bool) (a' b':Option Addr) (k' c' j' d' n' m':Nat) (h':Raw w a' k' c' n') (g':Raw w b' j' d' m') (b1:k<200000000) (b2:j<200000000) (EE:k'<200000000) (ED:j'<200000000):Calls prog 98 #[.agg #[.bool s,.slice a k c,.slice b j d],.agg #[.bool s',.slice a' k' c',.slice b' j' d']] w (bG (mkRat (bp s n) m+mkRat (bp s' n') m') w):=by
 obtain ⟨l1,l2⟩:=rO s n m h.cI g.cI b1 b2;obtain ⟨l3,l4⟩:=rO s' n' m' h'.cI g'.cI EE ED;have hN:=λV (hV:Ext w V)=>(rM V s a b k c j d n m (h.ext hV) (g.ext hV) b1 b2).mono (λ_ _ hh=>hh.wY);have hD:=λV (hV:Ext w V)=>Fm V s a b k c j d n m (h.ext hV) (g.ext hV) b1 b2;have YH:=λV (hV:Ext w V)=>(rM V s' a' b' k' c' j' d' n' m' (h'.ext hV) (g'.ext hV) EE ED).mono (λ_ _ hh=>hh.wY);have QL:=λV (hV:Ext w V)=>Fm V s' a' b' k' c' j' d' n' m' (h'.ext hV) (g'.ext hV) EE ED;generalize mkRat (bp s n) m=P at*;generalize mkRat (bp s' n') m'=Q at*;have e2:decide ((P.den:Int)*(Q.den:Int)<0)=false:=decide_eq_false (by rw [<-Int.natCast_mul];omega);have e3:((P.den:Int)*(Q.den:Int)).natAbs=P.den*Q.den:=by rw [<-Int.natCast_mul,Int.natAbs_natCast]
 have f1:len (P.num*(Q.den:Int)).natAbs<400000000:=by rw [Int.natAbs_mul,Int.natAbs_natCast];exact xd l1 l4
 have f2:len (Q.num*(P.den:Int)).natAbs<400000000:=by rw [Int.natAbs_mul,Int.natAbs_natCast];exact xd l3 l2
 refine (C_ w s a b k c j d s' a' b' k' c' j' d' _ _ _ _ _ _ _ _ _ _ _ _ _ _ _ _ _ hN YH hD QL (λV a c b d h1 h2=>tT V _ _ _ _ (P.num*(Q.den:Int)) ?_ ?_ ?_ a c b d h1 h2) (λV a c b d h1 h2=>tT V _ _ _ _ (Q.num*(P.den:Int)) ?_ ?_ ?_ a c b d h1 h2) (λV a c b d h1 h2=>IK V _ _ _ _ (P.num*(Q.den:Int)+Q.num*(P.den:Int)) ?_ ?_ ?_ a c b d h1 h2) (λV a c b d h1 h2=>tT V _ _ _ _ ((P.den:Int)*(Q.den:Int)) ?_ ?_ ?_ a c b d h1 h2) (λV a c b d h1 h2=>Da V _ _ _ _ (P+Q) ?_ ?_ ?_ a c b d h1 h2)).mono (λ_ _ hh=>hh.Ba)
 .rw [fc,ep]
 .omega
 .omega
 .rw [fc,ep]
 .omega
 .omega
 .rw [fc,fc]
 .omega
 .omega
 .rw [ep,ep]
 .omega
 .omega
 .rw [e2,Bool.bne_false,fc,e3,Rat.add_def']
 .have:=nj (P.num*(Q.den:Int)) (Q.num*(P.den:Int));omega
 .rw [e3];have:=xd l2 l4;omega
