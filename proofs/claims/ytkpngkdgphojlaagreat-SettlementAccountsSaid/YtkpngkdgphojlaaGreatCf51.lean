/- Texts of the proof. -/
import Derived.Test.YtkpngkdgphojlaaGreatRows
import Derived.Test.YtkpngkdgphojlaaGreatChecked
import Derived.Test.YtkpngkdgphojlaaGreatCf3
import Derived.Test.YtkpngkdgphojlaaGreatCf50
set_option linter.all false
set_option maxHeartbeats 4000000
set_option maxRecDepth 100000
namespace Go.Proofs.YtkpngkdgphojlaaGreat
open Go.Proofs.Tryz
open Go.RowKit
theorem iY.ZL {w W w4 w5:World} {a a':Option Addr} {c c':Nat} {x y:Int} (h:Raw w4 a (len x.natAbs) c x.natAbs) (h':Raw w4 a' (len y.natAbs) c' y.natAbs) (hf:Fr W.heap.size a) (hf':Fr W.heap.size a') (hW:Ext w W) (h2:Ext w w4)
 (t:Touch w.heap.size W.heap.size w4 w5):iY x y w (.returned (.tuple #[.agg #[.bool (decide (x<0)),.slice a (len x.natAbs) c],.agg #[.bool (decide (y<0)),.slice a' (len y.natAbs) c'],.bool true])) w5:=
 ⟨a,c,a',c',rfl,h.bh t hf.o,hf.mono hW.size,h'.bh t hf'.o,hf'.mono hW.size,h2.mP t⟩
theorem aQ.rS {w:World} {b:Nat} {T:TypeId} {x y:Value} (h:aQ w b T [x,y]) (u v:Value):aQ ((w.setCell ⟨b,0,none⟩ u).setCell ⟨b,1,none⟩ v) b T [u,v]:=(h.set 0 u).set 1 v
theorem aQ.jO {w:World} {b b':Nat} {T:TypeId} {vs:List Value} (h:aQ w b T vs) (u v:Value) (hb:b'≠b):aQ ((w.setCell ⟨b',0,none⟩ u).setCell ⟨b',1,none⟩ v) b T vs:=(h.other _ _ hb).other _ _ hb
theorem uU (w:World) (s:Bool) (a:Option Addr) (k c n:Nat) (h:Raw w a k c n):
 Calls prog 128 #[.agg #[.bool s,.slice a k c]] w fun e w'=>e= .returned (.int .i64 (aZ s n).sign)∧Ext w w':=by
 have hN:=fun V (hV:Ext w V)=>rW V s a k c n (h.ext hV);generalize aZ s n=z at hN⊢;have HN:=ae hN;clear hN
 go_enter func128,ntmps128
 go_wp2_with fail
 obtain ⟨W,hW,x0,Z0,A0⟩:=aX w 117 [.bool s,.slice a k c];rw [←hW];clear hW;have aC:=ax A0 (Ext.refl _);have z0:=(A0.ext (Ext.refl _)).lt;refine (HN.o _ x0).mono ?_;rintro e w1 ⟨a1,c1,rfl,hr1,iX,hx1⟩;have aC:=ax A0 hx1;have z0:=(A0.ext hx1).lt;have fin: ∀v0 v1,Ext w ((w1.setCell ⟨w.heap.size,0,none⟩ v0).setCell ⟨w.heap.size,1,none⟩ v1):=fun v0 v1=>x0.bh hx1 (Touch.two _ (Nat.le_refl _) (by rw [Z0.o];omega) _ _);have Pw:=ae fin;clear fin
 have lz:=hr1.le;rcases Int.lt_trichotomy z 0 with hz|hz|hz
 ·have hs:=Int.sign_eq_neg_one_of_neg hz
  have HS:=ae hs;clear hs
  rw [decide_eq_true hz];go_wp2_with fail
  go_ret;exact ⟨cd HS.o.symm,Pw.o _ _⟩
 ·subst hz
  have hd:decide ((0:Int)<0)=false:=rfl;have hl:len (Int.natAbs 0)=0:=rfl;rw [hd,hl];go_wp2_with fail
  go_ret;exact ⟨rfl,Pw.o _ _⟩
 ·have hs:=Int.sign_eq_one_of_pos hz
  have HS:=ae hs;clear hs
  have hp:=gj.2 (show 0<z.natAbs by omega);have hb:(((len z.natAbs:Nat):Int)==0)=false:=by rw [beq_eq_false_iff_ne];omega
  rw [decide_eq_false (show¬z<0 by omega)];go_wp2_with fail
  go_ret;exact ⟨cd HS.o.symm,Pw.o _ _⟩
theorem yN (w:World) (s t:Bool) (a b:Option Addr) (k c k' c' n m:Nat) (h:Raw w a k c n) (h':Raw w b k' c' m) (hm:0<m) (b1:k<900000000) (b2:k'<900000000):
 Calls prog 173 #[.agg #[.bool s,.slice a k c],.agg #[.bool t,.slice b k' c']] w (iY (aZ s n/aZ t m) (aZ s n % aZ t m) w):=by
 have ib:=fun V a' c' (hV:Raw V a' (len (n/m)) c' (n/m))=>ju V (s !=t) a' _ c' _ hV;have Nc:=fun V a' c' (hV:Raw V a' (len (n % m)) c' (n % m))=>ju V s a' _ c' _ hV;obtain ⟨Q,hQ⟩: ∃Q,Q=aZ (s !=t) (n/m):=⟨_,rfl⟩;obtain ⟨R,hR⟩: ∃R,R=aZ s (n % m):=⟨_,rfl⟩;rw [←hQ]at ib;rw [←hR]at Nc;have wW:=ae ib;have zk:=ae Nc;have HQ:=ae hQ;have HR:=ae hR;clear ib Nc hQ hR
 go_enter func173,ntmps173
 go_wp2_with fail
 obtain ⟨W,hW,x0,Z0,A0,A1,A2,A3⟩:=uW w 117 [.bool s,.slice a k c] 117 [.bool t,.slice b k' c'] 117 [.bool false,.slice none 0 0] 117 [.bool false,.slice none 0 0];rw [←hW];clear hW;obtain ⟨aC,bf,bU,bV⟩:=ax A0 (Ext.refl _);have z0:=(A0.ext (Ext.refl _)).lt;obtain ⟨aM,bD,cj,cq⟩:=ax A1 (Ext.refl _);have z1:=(A1.ext (Ext.refl _)).lt;obtain ⟨bj,bQ,ct,cA⟩:=ax A2 (Ext.refl _);have z2:=(A2.ext (Ext.refl _)).lt;obtain ⟨eP,eQ,fU,fV⟩:=ax A3 (Ext.refl _);have z3:=(A3.ext (Ext.refl _)).lt;refine (yM _ _ _ _ _ _ _ _ _ (h.ext x0) (h'.ext x0) hm b1 b2).mono ?_;rintro e w1 ⟨a1,c1,a2,c2,rfl,hr1,iX,hr2,hf2,hx1⟩;obtain ⟨aC,bf,bU,bV⟩:=ax A0 hx1;have z0:=(A0.ext hx1).lt;obtain ⟨aM,bD,cj,cq⟩:=ax A1 hx1;have z1:=(A1.ext hx1).lt;obtain ⟨bj,bQ,ct,cA⟩:=ax A2 hx1;have z2:=(A2.ext hx1).lt;obtain ⟨eP,eQ,fU,fV⟩:=ax A3 hx1;have z3:=(A3.ext hx1).lt;have fD:True:=trivial;go_wp2_with fail
 go_region_held3 (fun w'=>w'.cell? ⟨w.heap.size,0,none⟩=some (.bool s)∧w'.cell? ⟨w.heap.size,1,none⟩=some (.slice a k c)∧w'.cell? ⟨w.heap.size+1,0,none⟩=some (.bool t)∧w'.cell? ⟨w.heap.size+1,1,none⟩=some (.slice b k' c')) (first|exact ⟨aC,bf,aM,bD⟩|(simp [go_sem,aC,bf,aM,bD])) (first
  |(go_at_call 175;have _t:=fD;refine (wW.o _ _ _ (hr1.ext (by exact (Ext.refl _).drew))).mono ?_;rintro e w2 ⟨a3,c3,rfl,hr3,hf3,hx2⟩;clear fD _t;obtain ⟨aC,bf,bU,bV⟩:=ax A0 (hx1.drew.trans hx2);have z0:=(A0.ext (hx1.drew.trans hx2)).lt;obtain ⟨aM,bD,cj,cq⟩:=ax A1 (hx1.drew.trans hx2);have z1:=(A1.ext (hx1.drew.trans hx2)).lt;obtain ⟨bj,bQ,ct,cA⟩:=ax A2 (hx1.drew.trans hx2);have z2:=(A2.ext (hx1.drew.trans hx2)).lt;obtain ⟨eP,eQ,fU,fV⟩:=ax A3 (hx1.drew.trans hx2);have z3:=(A3.ext (hx1.drew.trans hx2)).lt)
  |(go_at_call 175;refine (zk.o _ _ _ ((hr2.ext (by exact (Ext.refl _).drew)).ext hx2)).mono ?_;rintro e w3 ⟨a4,c4,rfl,hr4,FL,hx3⟩;obtain ⟨aC,bf,bU,bV⟩:=ax A0 ((hx1.drew.trans hx2).trans hx3);have z0:=(A0.ext ((hx1.drew.trans hx2).trans hx3)).lt;obtain ⟨aM,bD,cj,cq⟩:=ax A1 ((hx1.drew.trans hx2).trans hx3);have z1:=(A1.ext ((hx1.drew.trans hx2).trans hx3)).lt;obtain ⟨bj,bQ,ct,cA⟩:=ax A2 ((hx1.drew.trans hx2).trans hx3);have z2:=(A2.ext ((hx1.drew.trans hx2).trans hx3)).lt;obtain ⟨eP,eQ,fU,fV⟩:=ax A3 ((hx1.drew.trans hx2).trans hx3);have z3:=(A3.ext ((hx1.drew.trans hx2).trans hx3)).lt))
 go_upto_region 5 with fail
 have xx:Ext W w3:=(hx1.drew.trans hx2).trans hx3;have tt:Touch w.heap.size W.heap.size w3 ((((w3.setCell ⟨w.heap.size+1+1,0,none⟩ (.bool (decide (Q<0)))).setCell ⟨w.heap.size+1+1,1,none⟩ (.slice a3 (len Q.natAbs) c3)).setCell ⟨w.heap.size+1+1+1,0,none⟩ (.bool (decide (R<0)))).setCell ⟨w.heap.size+1+1+1,1,none⟩ (.slice a4 (len R.natAbs) c4)):=(Touch.two _ (by omega) (by rw [Z0.o];omega) _ _).trans (Touch.two _ (by omega) (by rw [Z0.o];omega) _ _);have D0:aQ ((((w3.setCell ⟨w.heap.size+1+1,0,none⟩ (.bool (decide (Q<0)))).setCell ⟨w.heap.size+1+1,1,none⟩ (.slice a3 (len Q.natAbs) c3)).setCell ⟨w.heap.size+1+1+1,0,none⟩ (.bool (decide (R<0)))).setCell ⟨w.heap.size+1+1+1,1,none⟩ (.slice a4 (len R.natAbs) c4)) w.heap.size 117 [.bool s,.slice a k c]:=((A0.ext xx).jO _ _ (by omega)).jO _ _ (by omega);have D1:aQ ((((w3.setCell ⟨w.heap.size+1+1,0,none⟩ (.bool (decide (Q<0)))).setCell ⟨w.heap.size+1+1,1,none⟩ (.slice a3 (len Q.natAbs) c3)).setCell ⟨w.heap.size+1+1+1,0,none⟩ (.bool (decide (R<0)))).setCell ⟨w.heap.size+1+1+1,1,none⟩ (.slice a4 (len R.natAbs) c4)) (w.heap.size+1) 117 [.bool t,.slice b k' c']:=((A1.ext xx).jO _ _ (by omega)).jO _ _ (by omega);have D2:aQ ((((w3.setCell ⟨w.heap.size+1+1,0,none⟩ (.bool (decide (Q<0)))).setCell ⟨w.heap.size+1+1,1,none⟩ (.slice a3 (len Q.natAbs) c3)).setCell ⟨w.heap.size+1+1+1,0,none⟩ (.bool (decide (R<0)))).setCell ⟨w.heap.size+1+1+1,1,none⟩ (.slice a4 (len R.natAbs) c4)) (w.heap.size+2) 117 [.bool (decide (Q<0)),.slice a3 (len Q.natAbs) c3]:=((A2.ext xx).rS _ _).jO _ _ (by omega);have D3:aQ ((((w3.setCell ⟨w.heap.size+1+1,0,none⟩ (.bool (decide (Q<0)))).setCell ⟨w.heap.size+1+1,1,none⟩ (.slice a3 (len Q.natAbs) c3)).setCell ⟨w.heap.size+1+1+1,0,none⟩ (.bool (decide (R<0)))).setCell ⟨w.heap.size+1+1+1,1,none⟩ (.slice a4 (len R.natAbs) c4)) (w.heap.size+3) 117 [.bool (decide (R<0)),.slice a4 (len R.natAbs) c4]:=((A3.ext xx).jO _ _ (by omega)).rS _ _;have e4:=x0.bh xx tt;have f3:=hf3.mono (hx1.drew).size;have f4:=FL.mono ((hx1.drew).trans hx2).size;have r3:=(hr3.ext hx3).bh tt (Fr.o f3);have r4:=hr4.bh tt (Fr.o f4);have zw:=tt.size;generalize ((((w3.setCell ⟨w.heap.size+1+1,0,none⟩ (.bool (decide (Q<0)))).setCell ⟨w.heap.size+1+1,1,none⟩ (.slice a3 (len Q.natAbs) c3)).setCell ⟨w.heap.size+1+1+1,0,none⟩ (.bool (decide (R<0)))).setCell ⟨w.heap.size+1+1+1,1,none⟩ (.slice a4 (len R.natAbs) c4))=w4 at*;clear tt hr3 hr4 hf3 FL hr1 hr2 iX hf2 wW zk aC bf bU bV aM bD cj cq bj bQ ct cA eP eQ fU fV A0 A1 A2 A3;have F3:Fr w.heap.size a3:=f3.mono x0.size;have F4:Fr w.heap.size a4:=f4.mono x0.size;obtain ⟨aC,bf,bU,bV⟩:=ax D0 (Ext.refl _);obtain ⟨aM,bD,cj,cq⟩:=ax D1 (Ext.refl _);obtain ⟨bj,bQ,ct,cA⟩:=ax D2 (Ext.refl _);obtain ⟨eP,eQ,fU,fV⟩:=ax D3 (Ext.refl _);have zW:=Z0.o;have HZW:=ae zW;by_cases QQ:R<0
 ·have hs1:s=true:=by
   cases s with
   |true=>rfl
   |false=>rw [HR.o,fj]at QQ;omega
  subst hs1;have CH:0<n % m:=by rw [HR.o,gu]at QQ;omega
  obtain ⟨q1,q2⟩:=pP (t:=t) hm CH;obtain ⟨M,hM⟩: ∃M:Int,M=(m:Int):=⟨_,rfl⟩;obtain ⟨R2,vO⟩: ∃R2:Int,R2=R+M:=⟨_,rfl⟩
  have Ue:aZ true n % aZ t m=R2:=by
   have:=Nat.mod_lt n hm;rw [q2,vO,HR.o,hM,gu];omega
  have Uf:decide (R2<0)=false:=decide_eq_false (by have:=Nat.mod_lt n hm;rw [vO,HR.o,hM,gu];omega)
  have hA: ∀V,Ext w V→Calls prog 209 #[.agg #[.bool t,.slice b k' c']] V (bm M V):=by
   intro V hV;rw [hM];exact PD V t b k' c' m (h'.ext hV)
  have Ug:R.natAbs=n % m:=by rw [HR.o,bF]
  have QB:len R.natAbs<900000000:=by
   have e1:=cM (Nat.le_of_lt (Nat.mod_lt n hm));have e2:=h'.dZ;rw [Ug];omega
  have hlM:len M.natAbs<900000000:=by
   have e2:=h'.dZ;rw [hM,Int.natAbs_natCast];omega
  have hS: ∀V a' c',Ext w4 V→Raw V a' (len M.natAbs) c' M.natAbs→Calls prog 208 #[.agg #[.bool true,.slice a4 (len R.natAbs) c4],.agg #[.bool (decide (M<0)),.slice a' (len M.natAbs) c']] V (bm R2 V):=by
   intro V a' c' hV Uh;have:=Ev V true (decide (M<0)) a4 a' _ c4 _ c' _ _ (r4.ext hV) Uh (by omega) (by omega);rw [kd]at this;rw [vO];rw [show aZ true R.natAbs=R from by rw [←decide_eq_true QQ];exact kd R]at this;exact this
  have hlQ:len Q.natAbs<900000000:=by
   have e1:Q.natAbs=n/m:=by rw [HQ.o,bF]
   have e2:=cM (Nat.div_le_self n m);have e3:=h.dZ;rw [e1];omega
  obtain ⟨ONE,PF⟩: ∃O:Int,O=1:=⟨_,rfl⟩
  have hO: ∀V,Calls prog 118 #[.int .i64 1] V (bm ONE V):=by
   intro V;rw [PF];exact lu V 1 (by decide) (by decide)
  have HA:=ae hA;have HS:=ae hS;have HO:=ae hO
  have xg:=ae Ue;have afq:=ae Uf;have xm:=ae PF;have wW:=ae q1
  clear hA hS hO q1 q2 vO Ue Uf hM Ug PF CH;rw [decide_eq_true QQ]at*;go_upto_region 6 with fail
  go_cut [] (fun wx=> ∃a6 c6,aQ wx w.heap.size 117 [.bool true,.slice a k c]∧aQ wx (w.heap.size+1) 117 [.bool t,.slice b k' c']∧aQ wx (w.heap.size+2) 117 [.bool (decide (Q<0)),.slice a3 (len Q.natAbs) c3]∧aQ wx (w.heap.size+3) 117 [.bool (decide (R2<0)),.slice a6 (len R2.natAbs) c6]∧Raw wx a6 (len R2.natAbs) c6 R2.natAbs∧Raw wx a3 (len Q.natAbs) c3 Q.natAbs∧Fr W.heap.size a6∧Ext w wx∧W.heap.size≤wx.heap.size)
  case first=>
   go_region_with (first
    |(go_at_call 209;refine (HA.o _ (by exact e4.drew)).mono ?_;rintro e w5 ⟨a5,c5,rfl,JY,vQ,dY⟩;obtain ⟨aC,bf,bU,bV⟩:=ax D0 ((Ext.refl _).drew.trans dY);obtain ⟨aM,bD,cj,cq⟩:=ax D1 ((Ext.refl _).drew.trans dY);obtain ⟨bj,bQ,ct,cA⟩:=ax D2 ((Ext.refl _).drew.trans dY);obtain ⟨eP,eQ,fU,fV⟩:=ax D3 ((Ext.refl _).drew.trans dY))
    |(go_at_call 208;refine (HS.o _ _ _ (by exact (Ext.refl _).drew.trans dY) JY).mono ?_;rintro e w6 ⟨a6,c6,rfl,NB,TQ,jB⟩;obtain ⟨aC,bf,bU,bV⟩:=ax D0 (((Ext.refl _).drew.trans dY).trans jB);obtain ⟨aM,bD,cj,cq⟩:=ax D1 (((Ext.refl _).drew.trans dY).trans jB);obtain ⟨bj,bQ,ct,cA⟩:=ax D2 (((Ext.refl _).drew.trans dY).trans jB);obtain ⟨eP,eQ,fU,fV⟩:=ax D3 (((Ext.refl _).drew.trans dY).trans jB)))
   all_goals go_wp2_with fail
   all_goals go_meet
   all_goals have PG:Ext w4 w6:=((Ext.refl _).drew.trans dY).trans jB
   all_goals have zz6:W.heap.size≤w4.heap.size:=by rw [zw];exact xx.size
   all_goals have f6:Fr W.heap.size a6:=TQ.mono (Nat.le_trans zz6 (Nat.le_trans (Ext.refl _).drew.size dY.size))
   all_goals have t6:=Touch.two (lo:=w.heap.size) (hi:=W.heap.size) (b:=w.heap.size+3) w6 (by omega) (by omega) (.bool (decide (R2<0))) (.slice a6 (len R2.natAbs) c6)
   all_goals exact ⟨a6,c6,(D0.ext PG).jO _ _ (by omega),(D1.ext PG).jO _ _ (by omega),(D2.ext PG).jO _ _ (by omega),(D3.ext PG).rS _ _,NB.bh t6 (Fr.o f6),(r3.ext PG).bh t6 (Fr.o f3),f6,(e4.trans PG).mP t6,by rw [t6.size];exact Nat.le_trans zz6 PG.size⟩
  case rest=>
   obtain ⟨a6,c6,E0,E1,E2,E3,r67,r37,f67,e7,zw7⟩:=hcut;obtain ⟨w7,rfl⟩: ∃w7:World,w7=wc:=⟨_,rfl⟩;clear D0 D1 D2 D3 aC bf bU bV aM bD cj cq bj bQ ct cA eP eQ fU fV r3 r4 HS HA;obtain ⟨aC,bf,bU,bV⟩:=ax E0 (Ext.refl _);obtain ⟨aM,bD,cj,cq⟩:=ax E1 (Ext.refl _);obtain ⟨bj,bQ,ct,cA⟩:=ax E2 (Ext.refl _);obtain ⟨eP,eQ,fU,fV⟩:=ax E3 (Ext.refl _)
   cases t with
   |true=>
    obtain ⟨Q2,PH⟩: ∃Q2:Int,Q2=Q+ONE:=⟨_,rfl⟩
    have Ui: ∀V a' c',Ext w7 V→Raw V a' (len ONE.natAbs) c' ONE.natAbs→Calls prog 208 #[.agg #[.bool (decide (Q<0)),.slice a3 (len Q.natAbs) c3],.agg #[.bool (decide (ONE<0)),.slice a' (len ONE.natAbs) c']] V (bm Q2 V):=by
     intro V a' c' hV Uh;have:=Ev V (decide (Q<0)) (decide (ONE<0)) a3 a' _ c3 _ c' _ _ (r37.ext hV) Uh (by omega) (by rw [xm.o];decide);rw [kd,kd]at this;rw [PH];exact this
    have Uj:aZ true n/aZ true m=Q2:=by
     rw [wW.o,PH,HQ.o,xm.o];simp [aZ]
    have wX:=ae Ui;have NJ:=ae Uj
    clear Ui Uj PH;go_wp2_with fail
    go_region_with (first
     |(go_at_call 118;refine (HO.o _).mono ?_;rintro e w8 ⟨a8,c8,rfl,Kh,QM,g_⟩;obtain ⟨aC,bf,bU,bV⟩:=ax E0 ((Ext.refl _).drew.trans g_);obtain ⟨aM,bD,cj,cq⟩:=ax E1 ((Ext.refl _).drew.trans g_);obtain ⟨bj,bQ,ct,cA⟩:=ax E2 ((Ext.refl _).drew.trans g_);obtain ⟨eP,eQ,fU,fV⟩:=ax E3 ((Ext.refl _).drew.trans g_))
     |(go_at_call 208;refine (wX.o _ _ _ (by exact (Ext.refl _).drew.trans g_) Kh).mono ?_;rintro e w9 ⟨a9,c9,rfl,OV,VP,jC⟩;obtain ⟨aC,bf,bU,bV⟩:=ax E0 (((Ext.refl _).drew.trans g_).trans jC);obtain ⟨aM,bD,cj,cq⟩:=ax E1 (((Ext.refl _).drew.trans g_).trans jC);obtain ⟨bj,bQ,ct,cA⟩:=ax E2 (((Ext.refl _).drew.trans g_).trans jC);obtain ⟨eP,eQ,fU,fV⟩:=ax E3 (((Ext.refl _).drew.trans g_).trans jC)))
    all_goals have Mv:Ext w7 w9:=((Ext.refl _).drew.trans g_).trans jC
    all_goals have f9:Fr W.heap.size a9:=VP.mono (Nat.le_trans zw7 (Nat.le_trans (Ext.refl _).drew.size g_.size))
    all_goals go_upto_region 10 with fail
    all_goals have t9:=Touch.two (lo:=w.heap.size) (hi:=W.heap.size) (b:=w.heap.size+2) w9 (by omega) (by omega) (.bool (decide (Q2<0))) (.slice a9 (len Q2.natAbs) c9)
    all_goals have G2:=(E2.ext Mv).rS (.bool (decide (Q2<0))) (.slice a9 (len Q2.natAbs) c9)
    all_goals have G3:=(E3.ext Mv).jO (b':=w.heap.size+2) (.bool (decide (Q2<0))) (.slice a9 (len Q2.natAbs) c9) (by omega)
    all_goals have Rt:=(e7.trans Mv).mP t9
    all_goals have r9:=OV.bh t9 (Fr.o f9)
    all_goals have r6:=(r67.ext Mv).bh t9 (Fr.o f67)
    all_goals rw [show w.heap.size+1+1=w.heap.size+2 from rfl]
    all_goals generalize (w9.setCell ⟨w.heap.size+2,0,none⟩ (.bool (decide (Q2<0)))).setCell ⟨w.heap.size+2,1,none⟩ (.slice a9 (len Q2.natAbs) c9)=qO at*
    all_goals obtain ⟨bj,bQ,ct,cA⟩:=ax G2 (Ext.refl _)
    all_goals obtain ⟨eP,eQ,fU,fV⟩:=ax G3 (Ext.refl _)
    all_goals go_wp2_with fail
    all_goals go_region
    all_goals go_wp2_with fail
    all_goals rw [NJ.o,xg.o]
    all_goals exact bodyPost_ret (v:= .tuple #[.agg #[.bool (decide (Q2<0)),.slice a9 (len Q2.natAbs) c9],.agg #[.bool (decide (R2<0)),.slice a6 (len R2.natAbs) c6],.bool true]) (by simp [results,results173,go_sem,bj,bQ,eP,eQ]) rfl (iY.ZL r9 r6 f9 f67 x0 Rt (((Touch.two _ (by omega) (by omega) _ _).trans (Touch.two _ (by omega) (by omega) _ _)).drew))
   |false=>
    obtain ⟨Q2,PH⟩: ∃Q2:Int,Q2=Q-ONE:=⟨_,rfl⟩
    have Ui: ∀V a' c',Ext w7 V→Raw V a' (len ONE.natAbs) c' ONE.natAbs→Calls prog 210 #[.agg #[.bool (decide (Q<0)),.slice a3 (len Q.natAbs) c3],.agg #[.bool (decide (ONE<0)),.slice a' (len ONE.natAbs) c']] V (bm Q2 V):=by
     intro V a' c' hV Uh;have:=PE V (decide (Q<0)) (decide (ONE<0)) a3 a' _ c3 _ c' _ _ (r37.ext hV) Uh (by omega) (by rw [xm.o];decide);rw [kd,kd]at this;rw [PH];exact this
    have Uj:aZ true n/aZ false m=Q2:=by
     rw [wW.o,PH,HQ.o,xm.o];simp [aZ];omega
    have wX:=ae Ui;have NJ:=ae Uj
    clear Ui Uj PH;go_wp2_with fail
    go_region_with (first
     |(go_at_call 118;refine (HO.o _).mono ?_;rintro e w8 ⟨a8,c8,rfl,Kh,QM,g_⟩;obtain ⟨aC,bf,bU,bV⟩:=ax E0 ((Ext.refl _).drew.trans g_);obtain ⟨aM,bD,cj,cq⟩:=ax E1 ((Ext.refl _).drew.trans g_);obtain ⟨bj,bQ,ct,cA⟩:=ax E2 ((Ext.refl _).drew.trans g_);obtain ⟨eP,eQ,fU,fV⟩:=ax E3 ((Ext.refl _).drew.trans g_))
     |(go_at_call 210;refine (wX.o _ _ _ (by exact (Ext.refl _).drew.trans g_) Kh).mono ?_;rintro e w9 ⟨a9,c9,rfl,OV,VP,jC⟩;obtain ⟨aC,bf,bU,bV⟩:=ax E0 (((Ext.refl _).drew.trans g_).trans jC);obtain ⟨aM,bD,cj,cq⟩:=ax E1 (((Ext.refl _).drew.trans g_).trans jC);obtain ⟨bj,bQ,ct,cA⟩:=ax E2 (((Ext.refl _).drew.trans g_).trans jC);obtain ⟨eP,eQ,fU,fV⟩:=ax E3 (((Ext.refl _).drew.trans g_).trans jC)))
    all_goals have Mv:Ext w7 w9:=((Ext.refl _).drew.trans g_).trans jC
    all_goals have f9:Fr W.heap.size a9:=VP.mono (Nat.le_trans zw7 (Nat.le_trans (Ext.refl _).drew.size g_.size))
    all_goals go_upto_region 10 with fail
    all_goals have t9:=Touch.two (lo:=w.heap.size) (hi:=W.heap.size) (b:=w.heap.size+2) w9 (by omega) (by omega) (.bool (decide (Q2<0))) (.slice a9 (len Q2.natAbs) c9)
    all_goals have G2:=(E2.ext Mv).rS (.bool (decide (Q2<0))) (.slice a9 (len Q2.natAbs) c9)
    all_goals have G3:=(E3.ext Mv).jO (b':=w.heap.size+2) (.bool (decide (Q2<0))) (.slice a9 (len Q2.natAbs) c9) (by omega)
    all_goals have Rt:=(e7.trans Mv).mP t9
    all_goals have r9:=OV.bh t9 (Fr.o f9)
    all_goals have r6:=(r67.ext Mv).bh t9 (Fr.o f67)
    all_goals rw [show w.heap.size+1+1=w.heap.size+2 from rfl]
    all_goals generalize (w9.setCell ⟨w.heap.size+2,0,none⟩ (.bool (decide (Q2<0)))).setCell ⟨w.heap.size+2,1,none⟩ (.slice a9 (len Q2.natAbs) c9)=qO at*
    all_goals obtain ⟨bj,bQ,ct,cA⟩:=ax G2 (Ext.refl _)
    all_goals obtain ⟨eP,eQ,fU,fV⟩:=ax G3 (Ext.refl _)
    all_goals go_wp2_with fail
    all_goals go_region
    all_goals go_wp2_with fail
    all_goals rw [NJ.o,xg.o]
    all_goals exact bodyPost_ret (v:= .tuple #[.agg #[.bool (decide (Q2<0)),.slice a9 (len Q2.natAbs) c9],.agg #[.bool (decide (R2<0)),.slice a6 (len R2.natAbs) c6],.bool true]) (by simp [results,results173,go_sem,bj,bQ,eP,eQ]) rfl (iY.ZL r9 r6 f9 f67 x0 Rt (((Touch.two _ (by omega) (by omega) _ _).trans (Touch.two _ (by omega) (by omega) _ _)).drew))
 ·have hres:aZ s n/aZ t m=Q∧aZ s n % aZ t m=R:=by
   have hc:s=false∨n % m=0:=by
    by_cases Fv:n % m=0
    ·exact Or.inr Fv
    ·cases s with
     |false=>exact Or.inl rfl
     |true=>exact absurd (by rw [HR.o,gu];omega) QQ
   obtain ⟨q1,q2⟩:=pw (s:=s) (t:=t) hm hc;refine ⟨by rw [q1,HQ.o],?_⟩;rw [q2,HR.o];rcases hc with hc|hc
   ·rw [hc,fj]
   ·rw [hc,oK];rfl
  have JX:=ae hres;clear hres
  have hdR:0≤R:=by omega
  rw [decide_eq_false QQ]at*;go_wp2_with fail
  go_region
  all_goals go_wp2_with fail
  all_goals rw [JX.o.1,JX.o.2]
  all_goals exact bodyPost_ret (v:= .tuple #[.agg #[.bool (decide (Q<0)),.slice a3 (len Q.natAbs) c3],.agg #[.bool (decide (R<0)),.slice a4 (len R.natAbs) c4],.bool true]) (by simp [results,results173,go_sem,bj,bQ,eP,eQ,hdR]) rfl (iY.ZL r3 r4 f3 f4 x0 e4 (((Touch.two _ (by omega) (by omega) _ _).trans (Touch.two _ (by omega) (by omega) _ _)).drew))
theorem Hi (w:World):Raw (w.alloc (Obj.cells #[] 185)) (some ⟨w.heap.size,0,none⟩) 0 0 0:=
 ⟨[],rfl,rfl,⟨Nat.zero_le _,by omega,Nat.zero_le _,(fun e=>by cases e),Small.nil,fun _ h=>by cases h⟩⟩
theorem Mw (w:World):Calls prog 73 #[] w (br 0 w):=by
 have r0:=Hi (w.alloc (.cells #[.bool false,.slice (some ⟨w.heap.size+1,0,none⟩) 0 0,.slice (some ⟨w.heap.size+1+1,0,none⟩) 1 1] 119));have r1:=oQ ((w.alloc (.cells #[.bool false,.slice (some ⟨w.heap.size+1,0,none⟩) 0 0,.slice (some ⟨w.heap.size+1+1,0,none⟩) 1 1] 119)).alloc (Obj.cells #[] 185));have e0:Ext w (w.alloc (.cells #[.bool false,.slice (some ⟨w.heap.size+1,0,none⟩) 0 0,.slice (some ⟨w.heap.size+1+1,0,none⟩) 1 1] 119)):=(Ext.refl _).alloc _;rw [show(w.alloc (.cells #[.bool false,.slice (some ⟨w.heap.size+1,0,none⟩) 0 0,.slice (some ⟨w.heap.size+1+1,0,none⟩) 1 1] 119)).heap.size=w.heap.size+1 from by simp]at r0;rw [show((w.alloc (.cells #[.bool false,.slice (some ⟨w.heap.size+1,0,none⟩) 0 0,.slice (some ⟨w.heap.size+1+1,0,none⟩) 1 1] 119)).alloc (Obj.cells #[] 185)).heap.size=w.heap.size+1+1 from by simp]at r1;go_enter func73,ntmps73
 go_wp2_with fail
 exact bodyPost_ret (v:= .agg #[.bool false,.slice (some ⟨w.heap.size+1,0,none⟩) 0 0,.slice (some ⟨w.heap.size+1+1,0,none⟩) 1 1]) (by simp [results,results73,go_sem]) rfl
  ⟨_,0,_,1,rfl,r0.ext ((Ext.refl _).alloc _),Fr.some (by omega),r1,Fr.some (by omega),(e0.alloc _).alloc _⟩
theorem tH (t:Bool) (m:Nat) (hm:0<m):decide (aZ t m<0)=t:=by
 rw [rK];simp [hm]
theorem yO {l:List Nat} (hs:Small l) (hl:l.length=len (val l)):l= [1]↔val l=1:=by
 constructor
 ·intro h;rw [h];rfl
 ·intro h
  have h1:l.length=1:=by rw [hl,h];exact n4
  exact val_inj hs (Small.one (by decide)) (by rw [h1];rfl) (by rw [h];rfl)
theorem CA (s t:Bool) (n m:Nat) (hm:0<m):(mkRat (aZ (s !=t) n) m).num.natAbs=n/Nat.gcd n m∧(mkRat (aZ (s !=t) n) m).den=m/Nat.gcd n m∧decide ((mkRat (aZ (s !=t) n) m).num<0)=decide (aZ (s !=t) (n/Nat.gcd n m)<0):=by
 have h1:=gm (aZ (s !=t) n) m hm;have h2:=kS (aZ (s !=t) n) m hm;have h3:=jZ (aZ (s !=t) n) m hm;rw [bF,Nat.gcd_comm]at h1 h2;refine ⟨h1,h2,?_⟩;rw [h3,rK,rK];congr 2
 have hg:0<Nat.gcd n m:=Nat.gcd_pos_of_pos_right _ hm;by_cases h:0<n
 ·have:0<n/Nat.gcd n m:=Nat.div_pos (Nat.le_of_dvd h (Nat.gcd_dvd_left n m)) hg
  simp [h,this]
 ·have:n=0:=by omega
  subst this;simp
theorem Al (w:World) (s t:Bool) (a b:Option Addr) (k c k' c' n m:Nat) (_h:Raw w a k c n) (h':Raw w b k' c' m) (hm:m=0):
 Calls prog 117 #[.agg #[.bool s,.slice a k c],.agg #[.bool t,.slice b k' c']] w (br (mkRat (aZ (s !=t) n) m) w):=by
 rw [hm,Rat.mkRat_zero]
 have hS: ∀V,Ext w V→Calls prog 128 #[.agg #[.bool t,.slice b k' c']] V fun e w'=>e= .returned (.int .i64 0)∧Ext V w':=by
  intro V hV;have:=uU V t b k' c' m (h'.ext hV);rw [hm,oK]at this;exact this
 have HS:=ae hS;clear hS
 go_enter func117,ntmps117
 go_wp2_with fail
 obtain ⟨W,hW,x0,Z0,A0,A1,A2⟩:=gl w 117 [.bool s,.slice a k c] 117 [.bool t,.slice b k' c'] 119 [.bool false,.slice none 0 0,.slice none 0 0];rw [←hW];clear hW;have aC:=ax A0 (Ext.refl _);have z0:=(A0.ext (Ext.refl _)).lt;have aM:=ax A1 (Ext.refl _);have z1:=(A1.ext (Ext.refl _)).lt;have bj:=aN A2 (Ext.refl _);have z2:=(A2.ext (Ext.refl _)).lt;refine (HS.o _ x0).mono ?_;rintro e w1 ⟨rfl,x1⟩;have aC:=ax A0 x1;have z0:=(A0.ext x1).lt;have aM:=ax A1 x1;have z1:=(A1.ext x1).lt;have bj:=aN A2 x1;have z2:=(A2.ext x1).lt;go_wp2_with fail
 refine (Mw _).mono ?_;intro e w2 hN;obtain ⟨a2,c2,a3,c3,rfl,r2,f2,r3,f3,x2⟩:=id hN;have aC:=ax A0 (x1.trans x2);have z0:=(A0.ext (x1.trans x2)).lt;have aM:=ax A1 (x1.trans x2);have z1:=(A1.ext (x1.trans x2)).lt;have bj:=aN A2 (x1.trans x2);have z2:=(A2.ext (x1.trans x2)).lt;go_wp2_with fail
 exact bodyPost_ret (by simp [results,results117,go_sem, *]) rfl (br.bh (hN.base x1) x0 (Touch.three _ (by omega) (by rw [Z0.o];omega) _ _ _))
theorem CB (w:World) (s:Bool) (a b:Option Addr) (k c k' c' n:Nat) (h:Raw w a k c n) (h':Raw w b k' c' 1):
 Calls prog 117 #[.agg #[.bool s,.slice a k c],.agg #[.bool false,.slice b k' c']] w (br (mkRat (aZ (s !=false) n) 1) w):=by
 obtain ⟨m,xt⟩: ∃m:Nat,m=1:=⟨_,rfl⟩;have hm:0<m:=by omega
 rw [←xt]at h';obtain ⟨t,ht⟩: ∃t:Bool,t=false:=⟨_,rfl⟩;rw [←ht];have hS: ∀V,Ext w V→Calls prog 128 #[.agg #[.bool t,.slice b k' c']] V fun e w'=>e= .returned (.int .i64 (aZ t m).sign)∧Ext V w':=fun V hV=>uU V t b k' c' m (h'.ext hV)
 have Lq:((aZ t m).sign==0)=false:=by
  rw [beq_eq_false_iff_ne];cases t with
  |true=>rw [gu,Int.sign_eq_neg_one_of_neg (by omega)];decide
  |false=>rw [fj,Int.sign_eq_one_of_pos (by omega)];decide
 generalize (aZ t m).sign=sg at hS Lq
 have hN: ∀V,Ext w V→Calls prog 170 #[.agg #[.bool t,.slice b k' c']] V fun e w'=> ∃a1 c1,e= .returned (.agg #[.bool t,.slice a1 (len m) c1])∧Raw w' a1 (len m) c1 m∧Fr V.heap.size a1∧Ext V w':=by
  intro V hV;refine (rW V t b k' c' m (h'.ext hV)).mono ?_;rintro e w' ⟨a1,c1,he,hr,hf,hx⟩;rw [bF]at he hr;rw [tH t m hm]at he;exact ⟨a1,c1,he,hr,hf,hx⟩
 have HS:=ae hS;have HN:=ae hN;clear hS hN
 have ZM: ∀V,Ext w V→Calls prog 170 #[.agg #[.bool s,.slice a k c]] V (bm (aZ s n) V):=fun V hV=>rW V s a k c n (h.ext hV);obtain ⟨Z,hZ⟩: ∃Z,Z=aZ s n:=⟨_,rfl⟩;rw [←hZ]at ZM;obtain ⟨q,hq⟩: ∃q:Rat,q=mkRat (aZ (s !=t) n) 1:=⟨_,rfl⟩
 have ib:q.num=Z∧q.den=1:=by
  have e:q=((aZ s n:Int):Rat):=by rw [hq,ht,Bool.bne_false,Rat.mkRat_one]
  rw [e,hZ];exact ⟨rfl,rfl⟩
 rw [←hq];have HNN:=ae ZM;have HQ:=ae ib;have ZN:=ae xt
 clear ZM ib hq hZ xt;subst ht;go_enter func117,ntmps117
 go_wp2_with fail
 obtain ⟨W,hW,x0,Z0,A0,A1,A2⟩:=gl w 117 [.bool s,.slice a k c] 117 [.bool false,.slice b k' c'] 119 [.bool false,.slice none 0 0,.slice none 0 0];rw [←hW];clear hW;obtain ⟨aC,bf,bU,bV⟩:=ax A0 (Ext.refl _);have z0:=(A0.ext (Ext.refl _)).lt;have aM:=ax A1 (Ext.refl _);have z1:=(A1.ext (Ext.refl _)).lt;obtain ⟨bj,bQ,kE,ct,cA,lJ⟩:=aN A2 (Ext.refl _);have z2:=(A2.ext (Ext.refl _)).lt;refine (HS.o _ x0).mono ?_;rintro e w1 ⟨rfl,x1⟩;obtain ⟨aC,bf,bU,bV⟩:=ax A0 x1;have z0:=(A0.ext x1).lt;have aM:=ax A1 x1;have z1:=(A1.ext x1).lt;obtain ⟨bj,bQ,kE,ct,cA,lJ⟩:=aN A2 x1;have z2:=(A2.ext x1).lt;go_wp2_with fail
 refine (HN.o _ (x0.trans x1)).mono ?_;rintro e w2 ⟨a1,c1,rfl,r1,f1,x2⟩;obtain ⟨aC,bf,bU,bV⟩:=ax A0 (x1.trans x2);have z0:=(A0.ext (x1.trans x2)).lt;have aM:=ax A1 (x1.trans x2);have z1:=(A1.ext (x1.trans x2)).lt;obtain ⟨bj,bQ,kE,ct,cA,lJ⟩:=aN A2 (x1.trans x2);have z2:=(A2.ext (x1.trans x2)).lt;go_upto_region 4 with fail
 obtain ⟨W2,hW2,y2,ZZ2,P0⟩:=aX w2 117 [.bool false,.slice a1 (len m) c1];rw [←hW2];clear hW2;have g2:Ext W W2:=(x1.trans x2).trans y2;obtain ⟨aC,bf,bU,bV⟩:=ax A0 g2;have z0:=(A0.ext g2).lt;have aM:=ax A1 g2;have z1:=(A1.ext g2).lt;obtain ⟨bj,bQ,kE,ct,cA,lJ⟩:=aN A2 g2;have z2:=(A2.ext g2).lt;obtain ⟨Ew,Hj,Mx,My⟩:=ax P0 (Ext.refl _);go_wp2_with fail
 have o1:=oQ W2;have y3:Ext W2 (W2.alloc (Obj.cells #[.int .u32 1] 185)):=(Ext.refl _).alloc _;obtain ⟨l,hl,hv,hA⟩:=(r1.ext y2).ext y3;obtain ⟨l',hl',hv',hA'⟩:=o1;have PI:=Cv _ _ _ _ _ l l' hA hA';have Uk:l'= [1]:=val_inj hA'.small (Small.one (by decide)) (by rw [hl'];rfl) (by rw [hv'];rfl);have el:l= [1]:=(yO hA.small (by rw [hl,hv])).2 (by rw [hv,ZN.o]);rw [decide_eq_true (show l=l' by rw [el,Uk]),hl,hl']at PI;clear hA hA' hl hl' hv hv' el Uk;refine PI.mono ?_;rintro e w3 ⟨rfl,KI⟩;clear PI;have g3:Ext W w3:=(g2.trans y3).trans KI.ext;have v3:Ext W2 w3:=y3.trans KI.ext;obtain ⟨aC,bf,bU,bV⟩:=ax A0 g3;have z0:=(A0.ext g3).lt;have aM:=ax A1 g3;have z1:=(A1.ext g3).lt;obtain ⟨bj,bQ,kE,ct,cA,lJ⟩:=aN A2 g3;have z2:=(A2.ext g3).lt;obtain ⟨Ew,Hj,Mx,My⟩:=ax P0 v3;go_wp2_with fail
 go_region_held3 (fun w'=>w'.cell? ⟨w.heap.size,0,none⟩=some (.bool s)∧w'.cell? ⟨w.heap.size,1,none⟩=some (.slice a k c)∧w'.cell? ⟨w2.heap.size,0,none⟩=some (.bool false)∧w'.cell? ⟨w2.heap.size,1,none⟩=some (.slice a1 (len m) c1)) (first|exact ⟨aC,bf,Ew,Hj⟩|(simp [go_sem,aC,bf,Ew,Hj])) (first
  |(go_at_call 170;refine (HNN.o _ (by exact x0.trans g3.drew)).mono ?_;rintro e w4 ⟨a4,c4,rfl,r4,f4,x4⟩;obtain ⟨aC,bf,bU,bV⟩:=ax A0 (g3.drew.trans x4);have z0:=(A0.ext (g3.drew.trans x4)).lt;have aM:=ax A1 (g3.drew.trans x4);have z1:=(A1.ext (g3.drew.trans x4)).lt;obtain ⟨bj,bQ,kE,ct,cA,lJ⟩:=aN A2 (g3.drew.trans x4);have z2:=(A2.ext (g3.drew.trans x4)).lt;obtain ⟨Ew,Hj,Mx,My⟩:=ax P0 (v3.drew.trans x4)))
 go_wp2_with fail
 have zz:=Z0.o;have rN:Raw w4 a4 (len q.num.natAbs) c4 q.num.natAbs:=by rw [HQ.o.1];exact r4
 have rD:Raw w4 a1 (len q.den) c1 q.den:=by rw [HQ.o.2,←ZN.o];exact (r1.ext y2).ext (v3.drew.trans x4)
 have fin:br q W (.returned (.agg #[.bool (decide (q.num<0)),.slice a4 (len q.num.natAbs) c4,.slice a1 (len q.den) c1])) w4:=⟨_,_,_,_,rfl,rN,f4.mono g3.drew.size,rD,f1.mono x1.size,g3.drew.trans x4⟩;rw [HQ.o.1,HQ.o.2,←ZN.o]at fin;exact bodyPost_ret (by simp [results,results117,go_sem,bj,bQ,kE]) rfl (br.bh fin x0 (Touch.three _ (by omega) (by omega) _ _ _))
theorem xM (w:World) (s t:Bool) (a b:Option Addr) (k c k' c' n m:Nat) (h:Raw w a k c n) (h':Raw w b k' c' m) (ht:t=false) (hm:0<m) (b1:k<900000000) (b2:k'<900000000) (xt:m≠1):
 Calls prog 117 #[.agg #[.bool s,.slice a k c],.agg #[.bool t,.slice b k' c']] w (br (mkRat (aZ (s !=t) n) m) w):=by
 have hS: ∀V,Ext w V→Calls prog 128 #[.agg #[.bool t,.slice b k' c']] V fun e w'=>e= .returned (.int .i64 (aZ t m).sign)∧Ext V w':=fun V hV=>uU V t b k' c' m (h'.ext hV)
 have Lq:((aZ t m).sign==0)=false:=by
  rw [beq_eq_false_iff_ne];cases t with
  |true=>rw [gu,Int.sign_eq_neg_one_of_neg (by omega)];decide
  |false=>rw [fj,Int.sign_eq_one_of_pos (by omega)];decide
 generalize (aZ t m).sign=sg at hS Lq
 have hN: ∀V,Ext w V→Calls prog 170 #[.agg #[.bool t,.slice b k' c']] V fun e w'=> ∃a1 c1,e= .returned (.agg #[.bool t,.slice a1 (len m) c1])∧Raw w' a1 (len m) c1 m∧Fr V.heap.size a1∧Ext V w':=by
  intro V hV;refine (rW V t b k' c' m (h'.ext hV)).mono ?_;rintro e w' ⟨a1,c1,he,hr,hf,hx⟩;rw [bF]at he hr;rw [tH t m hm]at he;exact ⟨a1,c1,he,hr,hf,hx⟩
 have HS:=ae hS;have HN:=ae hN;clear hS hN
 have IE:=h.dZ;have wO:=h'.dZ;have hg0:0<Nat.gcd n m:=Nat.gcd_pos_of_pos_right _ hm;have E5:len (Nat.gcd n m)≤len m:=cM (Nat.le_of_dvd hm (Nat.gcd_dvd_right n m));have VW:0<m/Nat.gcd n m:=Nat.div_pos (Nat.le_of_dvd hm (Nat.gcd_dvd_right n m)) hg0
 have hG: ∀V,Ext w V→Calls prog 172 #[.agg #[.bool s,.slice a k c],.agg #[.bool t,.slice b k' c']] V fun e w'=> ∃a1 c1,e= .returned (.agg #[.bool false,.slice a1 (len (Nat.gcd n m)) c1])∧Raw w' a1 (len (Nat.gcd n m)) c1 (Nat.gcd n m)∧Ext V w':=by
  intro V hV;refine (Kq V s t a b k c k' c' n m (h.ext hV) (h'.ext hV) (by omega) (by omega)).mono ?_;rintro e w' ⟨a1,c1,he,hr,hf,hx⟩;rw [Int.natAbs_natCast]at he hr;rw [decide_eq_false (by omega)]at he;exact ⟨a1,c1,he,hr,hx⟩
 have hD: ∀(V:World) (u:Bool) (a':Option Addr) (j d x:Nat) (a2:Option Addr) (c2:Nat),Raw V a' j d x→j<900000000→x % Nat.gcd n m=0→Raw V a2 (len (Nat.gcd n m)) c2 (Nat.gcd n m)→Calls prog 173 #[.agg #[.bool u,.slice a' j d],.agg #[.bool false,.slice a2 (len (Nat.gcd n m)) c2]] V fun e w'=> ∃a3 c3 a4 c4,e= .returned (.tuple #[.agg #[.bool (decide (aZ u (x/Nat.gcd n m)<0)),.slice a3 (len (x/Nat.gcd n m)) c3],.agg #[.bool false,.slice a4 0 c4],.bool true])∧Raw w' a3 (len (x/Nat.gcd n m)) c3 (x/Nat.gcd n m)∧Fr V.heap.size a3∧Ext V w':=by
  intro V u a' j d x a2 c2 hR hj hx0 vO;have:=yN V u false a' a2 j d _ c2 x _ hR vO hg0 hj (by omega);obtain ⟨q1,q2⟩:=pw (s:=u) (t:=false) (n:=x) hg0 (Or.inr hx0);rw [q1,q2,hx0,Bool.bne_false]at this;refine this.mono ?_;rintro e w' ⟨a3,c3,a4,c4,he,hr3,hf3,hr4,FL,hx⟩;rw [bF]at he hr3;exact ⟨a3,c3,a4,c4,he,hr3,hf3,hx⟩
 have hx1:n % Nat.gcd n m=0:=Nat.mod_eq_zero_of_dvd (Nat.gcd_dvd_left n m);have hx2:m % Nat.gcd n m=0:=Nat.mod_eq_zero_of_dvd (Nat.gcd_dvd_right n m);obtain ⟨m1,m2,m3⟩:=CA s t n m hm;obtain ⟨q,hq⟩: ∃q:Rat,q=mkRat (aZ (s !=t) n) m:=⟨_,rfl⟩;rw [←hq]at m1 m2 m3⊢;have Ul:=tH t _ VW
 have Um: ∀(V:World) (a2:Option Addr) (c2:Nat),Ext w V→Raw V a2 (len (Nat.gcd n m)) c2 (Nat.gcd n m)→Calls prog 173 #[.agg #[.bool t,.slice b k' c'],.agg #[.bool false,.slice a2 (len (Nat.gcd n m)) c2]] V fun e w'=> ∃a3 c3 a4 c4,e= .returned (.tuple #[.agg #[.bool t,.slice a3 (len (m/Nat.gcd n m)) c3],.agg #[.bool false,.slice a4 0 c4],.bool true])∧Raw w' a3 (len (m/Nat.gcd n m)) c3 (m/Nat.gcd n m)∧Fr V.heap.size a3∧Ext V w':=by
  intro V a2 c2 hV vO;have:=hD V t b k' c' m a2 c2 (h'.ext hV) b2 hx2 vO;rw [Ul]at this;exact this
 have PJ: ∀(V:World) (a2:Option Addr) (c2:Nat),Ext w V→Raw V a2 (len (Nat.gcd n m)) c2 (Nat.gcd n m)→Calls prog 173 #[.agg #[.bool s,.slice a k c],.agg #[.bool false,.slice a2 (len (Nat.gcd n m)) c2]] V fun e w'=> ∃a3 c3 a4 c4,e= .returned (.tuple #[.agg #[.bool (decide (aZ s (n/Nat.gcd n m)<0)),.slice a3 (len (n/Nat.gcd n m)) c3],.agg #[.bool false,.slice a4 0 c4],.bool true])∧Raw w' a3 (len (n/Nat.gcd n m)) c3 (n/Nat.gcd n m)∧Fr V.heap.size a3∧Ext V w':=fun V a2 c2 hV vO=>hD V s a k c n a2 c2 (h.ext hV) b1 hx1 vO;have wM:=cM (Nat.div_le_self n (Nat.gcd n m));have hl2:=cM (Nat.div_le_self m (Nat.gcd n m));generalize n/Nat.gcd n m=N at*;generalize m/Nat.gcd n m=D at*;generalize Nat.gcd n m=G at*;obtain ⟨sN,PK⟩: ∃sN,sN=decide (aZ s N<0):=⟨_,rfl⟩;rw [←PK]at PJ;have HG:=ae hG;have Un:=ae PJ;have Uo:=ae Um
 have M1:=ae m1;have M2:=ae m2;have M3:=ae m3;have ZO:=ae PK;have HQ:=ae hq
 clear hG hD PJ Um hx1 hx2 m1 m2 m3 hq Ul PK;subst ht;go_enter func117,ntmps117
 go_wp2_with fail
 obtain ⟨W,hW,x0,Z0,A0,A1,A2⟩:=gl w 117 [.bool s,.slice a k c] 117 [.bool false,.slice b k' c'] 119 [.bool false,.slice none 0 0,.slice none 0 0];rw [←hW];clear hW;have aC:=ax A0 (Ext.refl _);have z0:=(A0.ext (Ext.refl _)).lt;have aM:=ax A1 (Ext.refl _);have z1:=(A1.ext (Ext.refl _)).lt;obtain ⟨bj,bQ,kE,ct,cA,lJ⟩:=aN A2 (Ext.refl _);have z2:=(A2.ext (Ext.refl _)).lt;refine (HS.o _ x0).mono ?_;rintro e w1 ⟨rfl,x1⟩;have aC:=ax A0 x1;have z0:=(A0.ext x1).lt;have aM:=ax A1 x1;have z1:=(A1.ext x1).lt;obtain ⟨bj,bQ,kE,ct,cA,lJ⟩:=aN A2 x1;have z2:=(A2.ext x1).lt;go_wp2_with fail
 refine (HN.o _ (x0.trans x1)).mono ?_;rintro e w2 ⟨a1,c1,rfl,r1,f1,x2⟩;have aC:=ax A0 (x1.trans x2);have z0:=(A0.ext (x1.trans x2)).lt;have aM:=ax A1 (x1.trans x2);have z1:=(A1.ext (x1.trans x2)).lt;obtain ⟨bj,bQ,kE,ct,cA,lJ⟩:=aN A2 (x1.trans x2);have z2:=(A2.ext (x1.trans x2)).lt;go_upto_region 4 with fail
 obtain ⟨W2,hW2,y2,ZZ2,P0⟩:=aX w2 117 [.bool false,.slice a1 (len m) c1];rw [←hW2];clear hW2;have g2:Ext W W2:=(x1.trans x2).trans y2;have aC:=ax A0 g2;have z0:=(A0.ext g2).lt;have aM:=ax A1 g2;have z1:=(A1.ext g2).lt;obtain ⟨bj,bQ,kE,ct,cA,lJ⟩:=aN A2 g2;have z2:=(A2.ext g2).lt;have Ew:=ax P0 (Ext.refl _);go_wp2_with fail
 have o1:=oQ W2;have y3:Ext W2 (W2.alloc (Obj.cells #[.int .u32 1] 185)):=(Ext.refl _).alloc _;obtain ⟨l,hl,hv,hA⟩:=(r1.ext y2).ext y3;obtain ⟨l',hl',hv',hA'⟩:=o1;have PI:=Cv _ _ _ _ _ l l' hA hA';have Uk:l'= [1]:=val_inj hA'.small (Small.one (by decide)) (by rw [hl'];rfl) (by rw [hv'];rfl)
 have el: ¬l=l':=by
  intro h5;rw [Uk]at h5;have:=(yO hA.small (by rw [hl,hv])).1 h5;rw [hv]at this;exact xt this
 rw [decide_eq_false el,hl,hl']at PI;clear hA hA' hl hl' hv hv' el Uk;refine PI.mono ?_;rintro e w3 ⟨rfl,KI⟩;clear PI;have g3:Ext W w3:=(g2.trans y3).trans KI.ext;have aC:=ax A0 g3;have z0:=(A0.ext g3).lt;have aM:=ax A1 g3;have z1:=(A1.ext g3).lt;obtain ⟨bj,bQ,kE,ct,cA,lJ⟩:=aN A2 g3;have z2:=(A2.ext g3).lt;go_wp2_with fail
 refine (HG.o _ (x0.trans g3)).mono ?_;rintro e w4 ⟨a4,c4,rfl,r4,x4⟩;go_upto_region 7 with fail
 obtain ⟨W4,M0,y4,ZZ4,P1⟩:=aX w4 117 [.bool false,.slice a4 (len G) c4];rw [←M0];clear M0;have g4:Ext W W4:=(g3.trans x4).trans y4;have aC:=ax A0 g4;have z0:=(A0.ext g4).lt;have aM:=ax A1 g4;have z1:=(A1.ext g4).lt;obtain ⟨bj,bQ,kE,ct,cA,lJ⟩:=aN A2 g4;have z2:=(A2.ext g4).lt;have PL:=ax P1 (Ext.refl _);go_wp2_with fail
 refine (Un.o _ _ _ (x0.trans g4) (r4.ext y4)).mono ?_;rintro e w5 ⟨a5,c5,a6,c6,rfl,r5,f5,x5⟩;go_upto_region 8 with fail
 obtain ⟨W5,Up,y5,ZZ5,P2,P3⟩:=er w5 117 [.bool sN,.slice a5 (len N) c5] 117 [.bool false,.slice a6 0 c6];rw [←Up];clear Up;have g5:Ext W W5:=(g4.trans x5).trans y5;have aC:=ax A0 g5;have z0:=(A0.ext g5).lt;have aM:=ax A1 g5;have z1:=(A1.ext g5).lt;obtain ⟨bj,bQ,kE,ct,cA,lJ⟩:=aN A2 g5;have z2:=(A2.ext g5).lt;have PL:=ax P1 (x5.trans y5);have Ex:=ax P2 (Ext.refl _);go_wp2_with fail
 refine (Uo.o _ _ _ (x0.trans g5) (((r4.ext y4).ext x5).ext y5)).mono ?_;rintro e w6 ⟨a7,c7,a8,c8,rfl,r7,f7,x6⟩;go_upto_region 9 with fail
 obtain ⟨W6,MZ,y6,ZZ6,P4,P5⟩:=er w6 117 [.bool false,.slice a7 (len D) c7] 117 [.bool false,.slice a8 0 c8];rw [←MZ];clear MZ;have g6:Ext W W6:=(g5.trans x6).trans y6;have v6:Ext W5 W6:=x6.trans y6;have aC:=ax A0 g6;have z0:=(A0.ext g6).lt;have aM:=ax A1 g6;have z1:=(A1.ext g6).lt;obtain ⟨bj,bQ,kE,ct,cA,lJ⟩:=aN A2 g6;have z2:=(A2.ext g6).lt;have Ex:=ax P2 v6;have Kr:=ax P4 (Ext.refl _);have zz:=Z0.o;go_wp2_with fail
 have rN:Raw W6 a5 (len q.num.natAbs) c5 q.num.natAbs:=by rw [M1.o];exact (r5.ext y5).ext v6
 have rD:Raw W6 a7 (len q.den) c7 q.den:=by rw [M2.o];exact r7.ext y6
 have fin:br q W (.returned (.agg #[.bool (decide (q.num<0)),.slice a5 (len q.num.natAbs) c5,.slice a7 (len q.den) c7])) W6:=⟨_,_,_,_,rfl,rN,f5.mono g4.size,rD,f7.mono g5.size,g6⟩;rw [M1.o,M2.o,M3.o,Bool.bne_false,←ZO.o]at fin;exact bodyPost_ret (by simp [results,results117,go_sem,bj,bQ,kE]) rfl (br.bh fin x0 (Touch.three _ (by omega) (by omega) _ _ _))
theorem Am (w:World) (s t:Bool) (a b:Option Addr) (k c k' c' n m:Nat) (h:Raw w a k c n) (h':Raw w b k' c' m) (ht:t=true) (hm:0<m) (b1:k<900000000) (b2:k'<900000000):
 Calls prog 117 #[.agg #[.bool s,.slice a k c],.agg #[.bool t,.slice b k' c']] w (br (mkRat (aZ (s !=t) n) m) w):=by
 have hS: ∀V,Ext w V→Calls prog 128 #[.agg #[.bool t,.slice b k' c']] V fun e w'=>e= .returned (.int .i64 (aZ t m).sign)∧Ext V w':=fun V hV=>uU V t b k' c' m (h'.ext hV)
 have Lq:((aZ t m).sign==0)=false:=by
  rw [beq_eq_false_iff_ne];cases t with
  |true=>rw [gu,Int.sign_eq_neg_one_of_neg (by omega)];decide
  |false=>rw [fj,Int.sign_eq_one_of_pos (by omega)];decide
 generalize (aZ t m).sign=sg at hS Lq
 have hN: ∀V,Ext w V→Calls prog 170 #[.agg #[.bool t,.slice b k' c']] V fun e w'=> ∃a1 c1,e= .returned (.agg #[.bool t,.slice a1 (len m) c1])∧Raw w' a1 (len m) c1 m∧Fr V.heap.size a1∧Ext V w':=by
  intro V hV;refine (rW V t b k' c' m (h'.ext hV)).mono ?_;rintro e w' ⟨a1,c1,he,hr,hf,hx⟩;rw [bF]at he hr;rw [tH t m hm]at he;exact ⟨a1,c1,he,hr,hf,hx⟩
 have HS:=ae hS;have HN:=ae hN;clear hS hN
 have IE:=h.dZ;have wO:=h'.dZ;have hg0:0<Nat.gcd n m:=Nat.gcd_pos_of_pos_right _ hm;have E5:len (Nat.gcd n m)≤len m:=cM (Nat.le_of_dvd hm (Nat.gcd_dvd_right n m));have VW:0<m/Nat.gcd n m:=Nat.div_pos (Nat.le_of_dvd hm (Nat.gcd_dvd_right n m)) hg0
 have hG: ∀V,Ext w V→Calls prog 172 #[.agg #[.bool s,.slice a k c],.agg #[.bool t,.slice b k' c']] V fun e w'=> ∃a1 c1,e= .returned (.agg #[.bool false,.slice a1 (len (Nat.gcd n m)) c1])∧Raw w' a1 (len (Nat.gcd n m)) c1 (Nat.gcd n m)∧Ext V w':=by
  intro V hV;refine (Kq V s t a b k c k' c' n m (h.ext hV) (h'.ext hV) (by omega) (by omega)).mono ?_;rintro e w' ⟨a1,c1,he,hr,hf,hx⟩;rw [Int.natAbs_natCast]at he hr;rw [decide_eq_false (by omega)]at he;exact ⟨a1,c1,he,hr,hx⟩
 have hD: ∀(V:World) (u:Bool) (a':Option Addr) (j d x:Nat) (a2:Option Addr) (c2:Nat),Raw V a' j d x→j<900000000→x % Nat.gcd n m=0→Raw V a2 (len (Nat.gcd n m)) c2 (Nat.gcd n m)→Calls prog 173 #[.agg #[.bool u,.slice a' j d],.agg #[.bool false,.slice a2 (len (Nat.gcd n m)) c2]] V fun e w'=> ∃a3 c3 a4 c4,e= .returned (.tuple #[.agg #[.bool (decide (aZ u (x/Nat.gcd n m)<0)),.slice a3 (len (x/Nat.gcd n m)) c3],.agg #[.bool false,.slice a4 0 c4],.bool true])∧Raw w' a3 (len (x/Nat.gcd n m)) c3 (x/Nat.gcd n m)∧Fr V.heap.size a3∧Ext V w':=by
  intro V u a' j d x a2 c2 hR hj hx0 vO;have:=yN V u false a' a2 j d _ c2 x _ hR vO hg0 hj (by omega);obtain ⟨q1,q2⟩:=pw (s:=u) (t:=false) (n:=x) hg0 (Or.inr hx0);rw [q1,q2,hx0,Bool.bne_false]at this;refine this.mono ?_;rintro e w' ⟨a3,c3,a4,c4,he,hr3,hf3,hr4,FL,hx⟩;rw [bF]at he hr3;exact ⟨a3,c3,a4,c4,he,hr3,hf3,hx⟩
 have hx1:n % Nat.gcd n m=0:=Nat.mod_eq_zero_of_dvd (Nat.gcd_dvd_left n m);have hx2:m % Nat.gcd n m=0:=Nat.mod_eq_zero_of_dvd (Nat.gcd_dvd_right n m);obtain ⟨m1,m2,m3⟩:=CA s t n m hm;obtain ⟨q,hq⟩: ∃q:Rat,q=mkRat (aZ (s !=t) n) m:=⟨_,rfl⟩;rw [←hq]at m1 m2 m3⊢;have Ul:=tH t _ VW
 have Um: ∀(V:World) (a2:Option Addr) (c2:Nat),Ext w V→Raw V a2 (len (Nat.gcd n m)) c2 (Nat.gcd n m)→Calls prog 173 #[.agg #[.bool t,.slice b k' c'],.agg #[.bool false,.slice a2 (len (Nat.gcd n m)) c2]] V fun e w'=> ∃a3 c3 a4 c4,e= .returned (.tuple #[.agg #[.bool t,.slice a3 (len (m/Nat.gcd n m)) c3],.agg #[.bool false,.slice a4 0 c4],.bool true])∧Raw w' a3 (len (m/Nat.gcd n m)) c3 (m/Nat.gcd n m)∧Fr V.heap.size a3∧Ext V w':=by
  intro V a2 c2 hV vO;have:=hD V t b k' c' m a2 c2 (h'.ext hV) b2 hx2 vO;rw [Ul]at this;exact this
 have PJ: ∀(V:World) (a2:Option Addr) (c2:Nat),Ext w V→Raw V a2 (len (Nat.gcd n m)) c2 (Nat.gcd n m)→Calls prog 173 #[.agg #[.bool s,.slice a k c],.agg #[.bool false,.slice a2 (len (Nat.gcd n m)) c2]] V fun e w'=> ∃a3 c3 a4 c4,e= .returned (.tuple #[.agg #[.bool (decide (aZ s (n/Nat.gcd n m)<0)),.slice a3 (len (n/Nat.gcd n m)) c3],.agg #[.bool false,.slice a4 0 c4],.bool true])∧Raw w' a3 (len (n/Nat.gcd n m)) c3 (n/Nat.gcd n m)∧Fr V.heap.size a3∧Ext V w':=fun V a2 c2 hV vO=>hD V s a k c n a2 c2 (h.ext hV) b1 hx1 vO;have wM:=cM (Nat.div_le_self n (Nat.gcd n m));have hl2:=cM (Nat.div_le_self m (Nat.gcd n m));generalize n/Nat.gcd n m=N at*;generalize m/Nat.gcd n m=D at*;generalize Nat.gcd n m=G at*;obtain ⟨sN,PK⟩: ∃sN,sN=decide (aZ s N<0):=⟨_,rfl⟩;rw [←PK]at PJ;have HG:=ae hG;have Un:=ae PJ;have Uo:=ae Um
 have M1:=ae m1;have M2:=ae m2;have M3:=ae m3;have ZO:=ae PK;have HQ:=ae hq
 clear hG hD PJ Um hx1 hx2 m1 m2 m3 hq Ul PK;subst ht;go_enter func117,ntmps117
 go_wp2_with fail
 obtain ⟨W,hW,x0,Z0,A0,A1,A2⟩:=gl w 117 [.bool s,.slice a k c] 117 [.bool true,.slice b k' c'] 119 [.bool false,.slice none 0 0,.slice none 0 0];rw [←hW];clear hW;obtain ⟨aC,bf,bU,bV⟩:=ax A0 (Ext.refl _);have z0:=(A0.ext (Ext.refl _)).lt;obtain ⟨aM,bD,cj,cq⟩:=ax A1 (Ext.refl _);have z1:=(A1.ext (Ext.refl _)).lt;obtain ⟨bj,bQ,kE,ct,cA,lJ⟩:=aN A2 (Ext.refl _);have z2:=(A2.ext (Ext.refl _)).lt;refine (HS.o _ x0).mono ?_;rintro e w1 ⟨rfl,x1⟩;obtain ⟨aC,bf,bU,bV⟩:=ax A0 x1;have z0:=(A0.ext x1).lt;obtain ⟨aM,bD,cj,cq⟩:=ax A1 x1;have z1:=(A1.ext x1).lt;obtain ⟨bj,bQ,kE,ct,cA,lJ⟩:=aN A2 x1;have z2:=(A2.ext x1).lt;go_wp2_with fail
 refine (HN.o _ (x0.trans x1)).mono ?_;rintro e w2 ⟨a1,c1,rfl,r1,f1,x2⟩;obtain ⟨aC,bf,bU,bV⟩:=ax A0 (x1.trans x2);have z0:=(A0.ext (x1.trans x2)).lt;obtain ⟨aM,bD,cj,cq⟩:=ax A1 (x1.trans x2);have z1:=(A1.ext (x1.trans x2)).lt;obtain ⟨bj,bQ,kE,ct,cA,lJ⟩:=aN A2 (x1.trans x2);have z2:=(A2.ext (x1.trans x2)).lt;go_upto_region 4 with fail
 obtain ⟨W2,hW2,y2,ZZ2,P0⟩:=aX w2 117 [.bool true,.slice a1 (len m) c1];rw [←hW2];clear hW2;have g2:Ext W W2:=(x1.trans x2).trans y2;obtain ⟨aC,bf,bU,bV⟩:=ax A0 g2;have z0:=(A0.ext g2).lt;obtain ⟨aM,bD,cj,cq⟩:=ax A1 g2;have z1:=(A1.ext g2).lt;obtain ⟨bj,bQ,kE,ct,cA,lJ⟩:=aN A2 g2;have z2:=(A2.ext g2).lt;obtain ⟨Ew,Hj,Mx,My⟩:=ax P0 (Ext.refl _);obtain ⟨w3,hw3⟩: ∃w3:World,w3=W2:=⟨_,rfl⟩;have g3:Ext W w3:=by rw [hw3];exact g2
 rw [←hw3]at aC bf bU bV aM bD cj cq bj bQ kE ct cA lJ Ew Hj Mx My⊢;clear hw3;go_wp2_with fail
 refine (HG.o _ (x0.trans g3)).mono ?_;rintro e w4 ⟨a4,c4,rfl,r4,x4⟩;go_upto_region 7 with fail
 obtain ⟨W4,M0,y4,ZZ4,P1⟩:=aX w4 117 [.bool false,.slice a4 (len G) c4];rw [←M0];clear M0;have g4:Ext W W4:=(g3.trans x4).trans y4;obtain ⟨aC,bf,bU,bV⟩:=ax A0 g4;have z0:=(A0.ext g4).lt;obtain ⟨aM,bD,cj,cq⟩:=ax A1 g4;have z1:=(A1.ext g4).lt;obtain ⟨bj,bQ,kE,ct,cA,lJ⟩:=aN A2 g4;have z2:=(A2.ext g4).lt;have PL:=ax P1 (Ext.refl _);go_wp2_with fail
 refine (Un.o _ _ _ (x0.trans g4) (r4.ext y4)).mono ?_;rintro e w5 ⟨a5,c5,a6,c6,rfl,r5,f5,x5⟩;go_upto_region 8 with fail
 obtain ⟨W5,Up,y5,ZZ5,P2,P3⟩:=er w5 117 [.bool sN,.slice a5 (len N) c5] 117 [.bool false,.slice a6 0 c6];rw [←Up];clear Up;have g5:Ext W W5:=(g4.trans x5).trans y5;obtain ⟨aC,bf,bU,bV⟩:=ax A0 g5;have z0:=(A0.ext g5).lt;obtain ⟨aM,bD,cj,cq⟩:=ax A1 g5;have z1:=(A1.ext g5).lt;obtain ⟨bj,bQ,kE,ct,cA,lJ⟩:=aN A2 g5;have z2:=(A2.ext g5).lt;have PL:=ax P1 (x5.trans y5);have Ex:=ax P2 (Ext.refl _);go_wp2_with fail
 refine (Uo.o _ _ _ (x0.trans g5) (((r4.ext y4).ext x5).ext y5)).mono ?_;rintro e w6 ⟨a7,c7,a8,c8,rfl,r7,f7,x6⟩;go_upto_region 9 with fail
 obtain ⟨W6,MZ,y6,ZZ6,P4,P5⟩:=er w6 117 [.bool true,.slice a7 (len D) c7] 117 [.bool false,.slice a8 0 c8];rw [←MZ];clear MZ;have g6:Ext W W6:=(g5.trans x6).trans y6;have v6:Ext W5 W6:=x6.trans y6;obtain ⟨aC,bf,bU,bV⟩:=ax A0 g6;have z0:=(A0.ext g6).lt;obtain ⟨aM,bD,cj,cq⟩:=ax A1 g6;have z1:=(A1.ext g6).lt;obtain ⟨bj,bQ,kE,ct,cA,lJ⟩:=aN A2 g6;have z2:=(A2.ext g6).lt;have Ex:=ax P2 v6;have Kr:=ax P4 (Ext.refl _);have zz:=Z0.o;obtain ⟨sM,ZP⟩: ∃sM,sM=decide (aZ (s !=true) N<0):=⟨_,rfl⟩;have e5:Ext w5 W6:=y5.trans v6
 have hN1: ∀V,Ext W6 V→Calls prog 174 #[.agg #[.bool sN,.slice a5 (len N) c5]] V fun e w'=> ∃a9 c9,e= .returned (.agg #[.bool sM,.slice a9 (len N) c9])∧Raw w' a9 (len N) c9 N∧Fr V.heap.size a9∧Ext V w':=by
  intro V hV;refine (Eu V sN a5 _ c5 N ((r5.ext e5).ext hV)).mono ?_;rintro e w' ⟨a9,c9,he,hr,hf,hx⟩
  have e1: -aZ sN N=aZ (s !=true) N:=by
   have e2:=kd (aZ s N);rw [bF,←ZO.o]at e2;rw [e2,←rL];cases s<;>rfl
  rw [e1]at he hr;rw [bF]at he hr;rw [←ZP]at he;exact ⟨a9,c9,he,hr,hf,hx⟩
 have TF: ∀V,Ext W6 V→Calls prog 174 #[.agg #[.bool true,.slice a7 (len D) c7]] V fun e w'=> ∃a9 c9,e= .returned (.agg #[.bool false,.slice a9 (len D) c9])∧Raw w' a9 (len D) c9 D∧Fr V.heap.size a9∧Ext V w':=by
  intro V hV;refine (Eu V true a7 _ c7 D ((r7.ext y6).ext hV)).mono ?_;rintro e w' ⟨a9,c9,he,hr,hf,hx⟩;rw [←rL,Bool.not_true]at he hr;rw [bF]at he hr;rw [tH false D VW]at he;exact ⟨a9,c9,he,hr,hf,hx⟩
 have Lh:=ae hN1;have yj:=ae TF;have kg:=ae ZP
 clear hN1 TF ZP;have s45:W.heap.size≤w5.heap.size:=(g4.trans x5).size;have s46:W.heap.size≤w6.heap.size:=(g5.trans x6).size;have s56:w5.heap.size<w6.heap.size:=Nat.lt_of_lt_of_le P2.lt x6.size;go_upto_region 10 with fail
 have fD:True:=trivial;go_cut [] (fun wx=> ∃a9 c9 FI c10,aQ wx w5.heap.size 117 [.bool sM,.slice a9 (len N) c9]∧aQ wx w6.heap.size 117 [.bool false,.slice FI (len D) c10]∧Raw wx a9 (len N) c9 N∧Raw wx FI (len D) c10 D∧Fr W.heap.size a9∧Fr W.heap.size FI∧Ext W wx)
 case first=>
  go_region_with (first
   |(go_at_call 174;have _t:=fD;refine (Lh.o _ (by exact (Ext.refl _).drew)).mono ?_;rintro e w7 ⟨a9,c9,rfl,r9,f9,x7⟩;clear fD _t;have Ex:=ax P2 (v6.drew.trans x7);have Kr:=ax P4 ((Ext.refl _).drew.trans x7))
   |(go_at_call 174;refine (yj.o _ (by exact (Ext.refl _).drew.trans x7)).mono ?_;rintro e w8 ⟨FI,c10,rfl,ZQ,f10,x8⟩;have Ex:=ax P2 (v6.drew.trans (x7.trans x8));have Kr:=ax P4 ((Ext.refl _).drew.trans (x7.trans x8))))
  all_goals go_wp2_with fail
  all_goals go_meet
  all_goals have g8:Ext W6 w8:=(Ext.refl _).drew.trans (x7.trans x8)
  all_goals have z9:Fr (w6.heap.size+1) a9:=f9.mono P4.lt
  all_goals have KW:Fr (w6.heap.size+1) FI:=f10.mono (Nat.le_trans P4.lt x7.size)
  all_goals exact ⟨a9,c9,FI,c10,(((P2.ext v6).ext g8).rS _ _).jO _ _ (by omega),((P4.ext g8).jO _ _ (by omega)).rS _ _,(((((r9.ext x8).setCell _ _ (z9.ne (by simp only;omega))).setCell _ _ (z9.ne (by simp only;omega))).setCell _ _ (z9.ne (by simp only;omega))).setCell _ _ (z9.ne (by simp only;omega))),((((ZQ.setCell _ _ (KW.ne (by simp only;omega))).setCell _ _ (KW.ne (by simp only;omega))).setCell _ _ (KW.ne (by simp only;omega))).setCell _ _ (KW.ne (by simp only;omega))),z9.mono (by omega),KW.mono (by omega),(((((g6.trans g8).setCell s45 _).setCell s45 _).setCell s46 _).setCell s46 _)⟩
 case rest=>
  obtain ⟨a9,c9,FI,c10,E7,E10,r9,ZQ,f9,f10,g9⟩:=hcut;clear Ex Kr;obtain ⟨w9,rfl⟩: ∃w9:World,w9=wc:=⟨_,rfl⟩;obtain ⟨aC,bf,bU,bV⟩:=ax A0 g9;have z0:=(A0.ext g9).lt;obtain ⟨aM,bD,cj,cq⟩:=ax A1 g9;have z1:=(A1.ext g9).lt;obtain ⟨bj,bQ,kE,ct,cA,lJ⟩:=aN A2 g9;have z2:=(A2.ext g9).lt;have Ex:=ax E7 (Ext.refl _);have Kr:=ax E10 (Ext.refl _);go_wp2_with fail
  have rN:Raw w9 a9 (len q.num.natAbs) c9 q.num.natAbs:=by rw [M1.o];exact r9
  have rD:Raw w9 FI (len q.den) c10 q.den:=by rw [M2.o];exact ZQ
  have fin:br q W (.returned (.agg #[.bool (decide (q.num<0)),.slice a9 (len q.num.natAbs) c9,.slice FI (len q.den) c10])) w9:=⟨_,_,_,_,rfl,rN,f9,rD,f10,g9⟩;rw [M1.o,M2.o,M3.o,←kg.o]at fin;exact bodyPost_ret (by simp [results,results117,go_sem,bj,bQ,kE]) rfl (br.bh fin x0 (Touch.three _ (by omega) (by omega) _ _ _))
theorem FT (w:World) (s t:Bool) (a b:Option Addr) (k c k' c' n m:Nat) (h:Raw w a k c n) (h':Raw w b k' c' m) (b1:k<900000000) (b2:k'<900000000):
 Calls prog 117 #[.agg #[.bool s,.slice a k c],.agg #[.bool t,.slice b k' c']] w (br (mkRat (aZ (s !=t) n) m) w):=by
 by_cases h0:m=0
 ·exact Al w s t a b k c k' c' n m h h' h0
 ·cases t with
  |true=>exact Am w s true a b k c k' c' n m h h' rfl (by omega) b1 b2
  |false=>
   by_cases h1:m=1
   ·subst h1;exact CB w s a b k c k' c' n h h'
   ·exact xM w s false a b k c k' c' n m h h' rfl (by omega) b1 b2 h1
theorem br.Ks {q:Rat} {w w':World} {e:Ending} (h:br q w e w'):ke (decide (q.num<0)) q.num.natAbs q.den w e w':=h
theorem ke.Kl {q:Rat} {w w':World} {e:Ending} (h:ke (decide (q.num<0)) q.num.natAbs q.den w e w'):br q w e w':=h
theorem uz (w:World) (x:Int) (s1 s2 s:Bool) (n1 n2 n m:Nat) (h1: ∀V,Calls prog 118 #[.int .i64 x] V (n_ s1 n1 V)) (h2: ∀V,Calls prog 118 #[.int .i64 1] V (n_ s2 n2 V))
 (h3: ∀V a c b d,Raw V a (len n1) c n1→Raw V b (len n2) d n2→Calls prog 117 #[.agg #[.bool s1,.slice a (len n1) c],.agg #[.bool s2,.slice b (len n2) d]] V (ke s n m V)):
 Calls prog 67 #[.int .i64 x] w (ke s n m w):=by
 have H1:=ae h1;have H2:=ae h2;have H3:=ae h3;clear h1 h2 h3
 go_enter func67,ntmps67
 go_wp2_with fail
 obtain ⟨W,hW,x0,Z0,A0⟩:=aX w 119 [.bool false,.slice none 0 0,.slice none 0 0];rw [←hW];clear hW;obtain ⟨aC,bf,fP,bU,bV,iV⟩:=aN A0 (Ext.refl _);have z0:=(A0.ext (Ext.refl _)).lt;refine (H1.o _).mono ?_;rintro e w1 ⟨a1,c1,rfl,r1,f1,x1⟩;obtain ⟨aC,bf,fP,bU,bV,iV⟩:=aN A0 x1;have z0:=(A0.ext x1).lt;go_wp2_with fail
 refine (H2.o _).mono ?_;rintro e w2 ⟨a2,c2,rfl,r2,f2,x2⟩;obtain ⟨aC,bf,fP,bU,bV,iV⟩:=aN A0 (x1.trans x2);have z0:=(A0.ext (x1.trans x2)).lt;go_wp2_with fail
 refine (H3.o _ _ _ _ _ (r1.ext x2) r2).mono ?_;intro e w3 hN;obtain ⟨a3,c3,a4,c4,rfl,r3,f3,r4,f4,x3⟩:=id hN;obtain ⟨aC,bf,fP,bU,bV,iV⟩:=aN A0 ((x1.trans x2).trans x3);have z0:=(A0.ext ((x1.trans x2).trans x3)).lt;go_wp2_with fail
 exact bodyPost_ret (by simp [results,results67,go_sem,aC,bf,fP]) rfl (ke.bh (hN.base (x1.trans x2)) x0 (Touch.three _ (by omega) (by rw [Z0.o];omega) _ _ _))
theorem Ey (w:World) (x:Int) (h1: -9223372036854775808≤x) (h2:x≤9223372036854775807):
 Calls prog 67 #[.int .i64 x] w (br (x:Rat) w):=
 uz w x _ _ _ _ _ _ _ (fun V=>lu V x h1 h2) (fun V=>lu V 1 (by decide) (by decide))
  (fun V a c b d hR Mz=>by
    have:=FT V (decide (x<0)) (decide ((1:Int)<0)) a b _ c _ d _ _ hR Mz (by have:=gz h1 h2;omega) (by decide);rw [show decide ((1:Int)<0)=false from rfl,Bool.bne_false,kd,show(Int.natAbs 1)=1 from rfl,Rat.mkRat_one]at this;exact this)
theorem Ez (w:World) (x y:Int) (s1 s2 s:Bool) (n1 n2 n m:Nat) (h1: ∀V,Calls prog 118 #[.int .i64 x] V (n_ s1 n1 V)) (h2: ∀V,Calls prog 118 #[.int .i64 y] V (n_ s2 n2 V))
 (h3: ∀V a c b d,Raw V a (len n1) c n1→Raw V b (len n2) d n2→Calls prog 117 #[.agg #[.bool s1,.slice a (len n1) c],.agg #[.bool s2,.slice b (len n2) d]] V (ke s n m V)):
 Calls prog 66 #[.int .i64 x,.int .i64 y] w (ke s n m w):=by
 have H1:=ae h1;have H2:=ae h2;have H3:=ae h3;clear h1 h2 h3
 go_enter func66,ntmps66
 go_wp2_with fail
 obtain ⟨W,hW,x0,Z0,A0⟩:=aX w 119 [.bool false,.slice none 0 0,.slice none 0 0];rw [←hW];clear hW;obtain ⟨aC,bf,fP,bU,bV,iV⟩:=aN A0 (Ext.refl _);have z0:=(A0.ext (Ext.refl _)).lt;refine (H1.o _).mono ?_;rintro e w1 ⟨a1,c1,rfl,r1,f1,x1⟩;obtain ⟨aC,bf,fP,bU,bV,iV⟩:=aN A0 x1;have z0:=(A0.ext x1).lt;go_wp2_with fail
 refine (H2.o _).mono ?_;rintro e w2 ⟨a2,c2,rfl,r2,f2,x2⟩;obtain ⟨aC,bf,fP,bU,bV,iV⟩:=aN A0 (x1.trans x2);have z0:=(A0.ext (x1.trans x2)).lt;go_wp2_with fail
 refine (H3.o _ _ _ _ _ (r1.ext x2) r2).mono ?_;intro e w3 hN;obtain ⟨a3,c3,a4,c4,rfl,r3,f3,r4,f4,x3⟩:=id hN;obtain ⟨aC,bf,fP,bU,bV,iV⟩:=aN A0 ((x1.trans x2).trans x3);have z0:=(A0.ext ((x1.trans x2).trans x3)).lt;go_wp2_with fail
 exact bodyPost_ret (by simp [results,results66,go_sem,aC,bf,fP]) rfl (ke.bh (hN.base (x1.trans x2)) x0 (Touch.three _ (by omega) (by rw [Z0.o];omega) _ _ _))
theorem NK (w:World) (x:Int) (y:Nat) (h1: -9223372036854775808≤x) (h2:x≤9223372036854775807) (h3:y≤9223372036854775807):
 Calls prog 66 #[.int .i64 x,.int .i64 (y:Nat)] w (br (mkRat x y) w):=
 Ez w x y _ _ _ _ _ _ _ (fun V=>lu V x h1 h2) (fun V=>lu V y (by omega) (by omega))
  (fun V a c b d hR Mz=>by
    have:=FT V (decide (x<0)) (decide ((y:Int)<0)) a b _ c _ d _ _ hR Mz (by have:=gz h1 h2;omega) (by have:=gz (z:=(y:Int)) (by omega) (by omega);omega);rw [decide_eq_false (show¬(y:Int)<0 by omega),Bool.bne_false,kd,Int.natAbs_natCast]at this;rw [decide_eq_false (show¬(y:Int)<0 by omega),Int.natAbs_natCast];exact this)
theorem Raw.alloc' {w:World} {a:Option Addr} {k c n:Nat} (h:Raw w a k c n) (o:Obj):Raw (w.alloc o) a k c n:=h.ext ((Ext.refl _).alloc _)
theorem aQ.Cr {w:World} {b:Nat} {T:TypeId} {x y z:Value} (h:aQ w b T [x,y,z]) (u v t:Value):aQ (((w.setCell ⟨b,0,none⟩ u).setCell ⟨b,1,none⟩ v).setCell ⟨b,2,none⟩ t) b T [u,v,t]:=((h.set 0 u).set 1 v).set 2 t
theorem rX {w:World} {b:Nat} {T:TypeId} {l:List Int} (h:aQ w b T (ji l)):od w (some ⟨b,0,none⟩) l:=
 ⟨b,0,rfl,fun i hi=>by rw [h.cell,Nat.zero_add];exact ml l i hi⟩
def VX (r:fG) (row:Option Nat):Prop:=(0<r.k→ ∀x,r.a=some x→some x.block≠row)∧(0<r.j→ ∀x,r.b=some x→some x.block≠row)
open Go.ChangeShapes Go.WideShapes Go.ChangeAt
theorem Tryz.own:ownKnob Tryz.prog.godebug=none:=by kernel_rfl
open Go.Deep
theorem mS.src {w:World} {a:Option Addr} {c:Nat} {rs:List fG} {qs:List Rat} {L:Nat} (h:mS w a c rs qs L) (h0:0<rs.length): ∃ad,a=some ad∧ ∀j u,(ep rs)[j]?=some u→w.cell? (ad.add j)=some u:=by
 obtain ⟨b,o,rfl⟩:=h.at h0;refine ⟨_,rfl,fun j u hu=> ?_⟩;have hj:j<(ep rs).length:=(List.getElem?_eq_some_iff.1 hu).1;rw [gU]at hj;have hi:j/3<rs.length:=by omega
 have hk:j % 3<3:=by omega
 have hg:=gN rs (j/3) (j % 3) hi hk;rw [show j/3*3+j % 3=j by omega,hu]at hg;obtain ⟨b',o',e',c0,c1,c2⟩:=h.cell (j/3) hi;cases e'
 rw [show(Addr.add ⟨b,o,none⟩ j)=⟨b,o+j,none⟩from by unfold Addr.add;split<;>simp_all];rcases (show j % 3=0∨j % 3=1∨j % 3=2 by omega)with e|e|e
 ·rw [e]at hg;rw [show o+j=o+j/3*3 by omega,c0];simpa [fG.cells]using hg.symm
 ·rw [e]at hg;rw [show o+j=o+j/3*3+1 by omega,c1];simpa [fG.cells]using hg.symm
 ·rw [e]at hg;rw [show o+j=o+j/3*3+2 by omega,c2];simpa [fG.cells]using hg.symm
open Go
open Go.Maps Go.ChangeMaps Go.MapKept
end Go.Proofs.YtkpngkdgphojlaaGreat
