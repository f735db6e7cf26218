/- Texts of the proof. -/
import Derived.Test.YtfokdakioeoniaaGreatCj10
import Derived.Test.YtfokdakioeoniaaGreatCj13
set_option linter.all false
set_option maxHeartbeats 4000000
set_option maxRecDepth 100000
namespace Go.Proofs.YtfokdakioeoniaaGreat
open Go.Proofs.Tryz
open Go.RowKit
theorem jl.of4 {w W w4 w5:World} {a a':Option Addr} {c c':Nat} {x y:Int} (h:Raw w4 a (len x.natAbs) c x.natAbs) (h':Raw w4 a' (len y.natAbs) c' y.natAbs) (hf:Fr W.heap.size a) (hf':Fr W.heap.size a') (hW:Ext w W) (h2:Ext w w4)
 (t:Touch w.heap.size W.heap.size w4 w5):jl x y w (.returned (.tuple #[.agg #[.bool (decide (x<0)),.slice a (len x.natAbs) c],.agg #[.bool (decide (y<0)),.slice a' (len y.natAbs) c'],.bool true])) w5:=
 ⟨a,c,a',c',rfl,h.bH t hf.o,hf.mono hW.size,h'.bH t hf'.o,hf'.mono hW.size,h2.oQ t⟩
theorem Og {k:IntKind} {a b:Int} {v:Value} (h:a=b):Ending.returned (.tuple #[.int k a,v])= .returned (.tuple #[.int k b,v]):=by rw [h]
theorem aY.lY {w:World} {b:Nat} {T:TypeId} {x y:Value} (h:aY w b T [x,y]) (u v:Value):aY ((w.setCell ⟨b,0,none⟩ u).setCell ⟨b,1,none⟩ v) b T [u,v]:=(h.set 0 u).set 1 v
theorem aY.iE {w:World} {b b':Nat} {T:TypeId} {vs:List Value} (h:aY w b T vs) (u v:Value) (hb:b'≠b):aY ((w.setCell ⟨b',0,none⟩ u).setCell ⟨b',1,none⟩ v) b T vs:=(h.other _ _ hb).other _ _ hb
theorem uP (w:World) (s:Bool) (a:Option Addr) (k c n:Nat) (h:Raw w a k c n):
 Calls prog 50 #[.agg #[.bool s,.slice a k c]] w λe w'=>e= .returned (.int .i64 (bf s n).sign)/\Ext w w':=by
 have hN:=λV (hV:Ext w V)=>se V s a k c n (h.ext hV);generalize bf s n=z at hN⊢;have HN:=af hN;clear hN
 go_enter func50,ntmps50
 go_wp2_with fail
 obtain ⟨W,hW,x0,Z0,A0⟩:=bS w 61 [.bool s,.slice a k c];rw [<-hW];clear hW;obtain ⟨z0,aD,aF,aM,aN⟩:=bb1 aC A0 ah;refine (HN.o _ x0).mono ?_;rintro e w1 ⟨a1,c1,rfl,hr1,jw,hx1⟩;obtain ⟨z0,aD,aF,aM,aN⟩:=bb1 aC A0 hx1;have fin: ∀v0 v1,Ext w ((w1.setCell ⟨w.heap.size,0,none⟩ v0).setCell ⟨w.heap.size,1,none⟩ v1):=λv0 v1=>x0.bH hx1 (Touch.two _ cG (by rw [Z0.o];omega) _ _);have Ui:=af fin;clear fin
 have lz:=hr1.le;rcases Int.lt_trichotomy z 0 with hz|hz|hz
 .have hs:=Int.sign_eq_neg_one_of_neg hz
  have HS:=af hs;clear hs
  rw [decide_eq_true hz];go_wp2
  go_ret;exact ⟨cL HS.o.symm,Ui.o _ _⟩
 .subst hz
  have hd:decide ((0:Int)<0)=false:=rfl;have hl:len (Int.natAbs 0)=0:=rfl;rw [hd,hl];go_wp2
  go_ret;exact ⟨rfl,Ui.o _ _⟩
 .have hs:=Int.sign_eq_one_of_pos hz
  have HS:=af hs;clear hs
  have hp:=iy.2 (show 0<z.natAbs by omega);have hb:(((len z.natAbs:Nat):Int)==0)=false:=by rw [beq_eq_false_iff_ne];omega
  rw [decide_eq_false (show¬z<0 by omega)];go_wp2
  go_ret;exact ⟨cL HS.o.symm,Ui.o _ _⟩
theorem Fv (w:World) (s:Bool) (a:Option Addr) (k c n:Nat) (h:Raw w a k c n) (h1: -9223372036854775808<=bf s n) (h2:bf s n<=9223372036854775807):
 Calls prog 155 #[.agg #[.bool s,.slice a k c]] w λe w'=>e= .returned (.tuple #[.int .i64 (bf s n),.bool true])/\Ext w w':=by
 have hU: ∀V a' c',Raw V a' (len (bf s n).natAbs) c' (bf s n).natAbs->Calls prog 239 #[.slice a' (len (bf s n).natAbs) c'] V λe w'=>e= .returned (.tuple #[.int .u64 ((bf s n).natAbs:Nat),.bool true])/\Ext V w':=λV a' c' hR=>j0 _ _ _ _ _ hR ae;have hN:=λV (hV:Ext w V)=>se V s a k c n (h.ext hV);generalize bf s n=z at*;have HN:=af hN;have HU:=af hU;clear hN hU
 go_enter func155,ntmps155
 go_wp2_with fail
 obtain ⟨W,hW,x0,Z0,A0⟩:=bS w 61 [.bool s,.slice a k c];rw [<-hW];clear hW;obtain ⟨z0,aD,aF,aM,aN⟩:=bb1 aC A0 ah;refine (HN.o _ x0).mono ?_;rintro e w1 ⟨a1,c1,rfl,hr1,jw,hx1⟩;obtain ⟨z0,aD,aF,aM,aN⟩:=bb1 aC A0 hx1
 have A1:aY ((w1.setCell ⟨w.heap.size,0,none⟩ (.bool (decide (z<0)))).setCell ⟨w.heap.size,1,none⟩ (.slice a1 (len (z).natAbs) c1)) w.heap.size 61 [.bool (decide (z<0)),.slice a1 (len (z).natAbs) c1]:=by
  have:=((A0.ext hx1).set 0 (.bool (decide (z<0)))).set 1 (.slice a1 (len (z).natAbs) c1);exact this
 have t1:Touch w.heap.size W.heap.size w1 ((w1.setCell ⟨w.heap.size,0,none⟩ (.bool (decide (z<0)))).setCell ⟨w.heap.size,1,none⟩ (.slice a1 (len (z).natAbs) c1)):=Touch.two _ cG (by rw [Z0.o];omega) _ _;have fin:=x0.bH hx1 t1;have r1:=hr1.bH t1 jw.o;have lz:=hr1.le;clear hr1 jw t1;go_upto_region 2 with fail
 clear aD aF aM aN z0;generalize (w1.setCell ⟨w.heap.size,0,none⟩ (.bool (decide (z<0)))).setCell ⟨w.heap.size,1,none⟩ (.slice a1 (len (z).natAbs) c1)=w2 at*;obtain ⟨aD,aF,aM,aN⟩:=aC A1 ah;go_wp2_with fail
 refine (HU.o _ _ _ r1).mono ?_;rintro e w3 ⟨rfl,hx3⟩;obtain ⟨aD,aF,aM,aN⟩:=aC A1 hx3;by_cases hz:z<0
 .rw [decide_eq_true hz]at*
  obtain ⟨q,rfl⟩: ∃q:Nat,z= -((q+1:Nat):Int):=⟨z.natAbs-1,ae⟩;have hq:(-((q+1:Nat):Int)).natAbs=q+1:=ae;rw [hq];have ZK:q<9223372036854775808:=ae;have d1:decide (((q:Int)+1)<=9223372036854775808)=true:=by simp;omega
  have d2:(q:Int)<9223372036854775808:=ae;clear h1 h2 hz;go_wp2_with fail
  go_ret2
  exact ⟨Og (show-(q:Int)-1= -((q+1:Nat):Int) by omega),fin.trans hx3⟩
 .rw [decide_eq_false hz]at*
  obtain ⟨q,rfl⟩: ∃q:Nat,z=(q:Int):=⟨z.natAbs,ae⟩;rw [Int.natAbs_natCast]at*;have d1: ¬(9223372036854775808:Int)<=(q:Int):=ae;go_wp2_with fail
  go_ret2
  exact ⟨rfl,fin.trans hx3⟩
theorem vO (w:World) (s t:Bool) (a b:Option Addr) (k c k' c' n m:Nat) (h:Raw w a k c n) (h':Raw w b k' c' m) (hm:0<m) (b1:k<900000000) (b2:k'<900000000):
 Calls prog 83 #[.agg #[.bool s,.slice a k c],.agg #[.bool t,.slice b k' c']] w (jl (bf s n/bf t m) (bf s n % bf t m) w):=by
 have pE:=λV a' c' (hV:Raw V a' (len (n/m)) c' (n/m))=>j9 V (s !=t) a' _ c' _ hV;have BU:=λV a' c' (hV:Raw V a' (len (n % m)) c' (n % m))=>j9 V s a' _ c' _ hV;obtain ⟨Q,hQ⟩: ∃Q,Q=bf (s !=t) (n/m):=⟨_,rfl⟩;obtain ⟨R,hR⟩: ∃R,R=bf s (n % m):=⟨_,rfl⟩;rw [<-hQ]at pE;rw [<-hR]at BU;have vD:=af pE;have CZ:=af BU;have HQ:=af hQ;have HR:=af hR;clear pE BU hQ hR
 go_enter func83,ntmps83
 go_wp2_with fail
 obtain ⟨W,hW,x0,Z0,A0,A1,A2,A3⟩:=za w 61 [.bool s,.slice a k c] 61 [.bool t,.slice b k' c'] 61 [.bool false,.slice none 0 0] 61 [.bool false,.slice none 0 0];rw [<-hW];clear hW;obtain ⟨z0,z1,z2,⟨aD,aF,aM,aN⟩,⟨aJ,aK,aR,aS⟩,aZ,a_,bA,bB⟩:=bb3 aC aC aC A0 A1 A2 ah;obtain ⟨z3,fV,fX,il,iq⟩:=bb1 aC A3 ah;refine (Cc _ _ _ _ _ _ _ _ _ (h.ext x0) (h'.ext x0) hm b1 b2).mono ?_;rintro e w1 ⟨a1,c1,a2,c2,rfl,hr1,jw,hr2,hf2,hx1⟩;obtain ⟨z0,z1,z2,⟨aD,aF,aM,aN⟩,⟨aJ,aK,aR,aS⟩,aZ,a_,bA,bB⟩:=bb3 aC aC aC A0 A1 A2 hx1;obtain ⟨z3,fV,fX,il,iq⟩:=bb1 aC A3 hx1;have gC:True:=trivial;go_wp2_with fail
 go_region_held3 (λw'=>w'.cell? ⟨w.heap.size,0,none⟩=some (.bool s)/\w'.cell? ⟨w.heap.size,1,none⟩=some (.slice a k c)/\w'.cell? ⟨w.heap.size+1,0,none⟩=some (.bool t)/\w'.cell? ⟨w.heap.size+1,1,none⟩=some (.slice b k' c')) (first|exact ⟨aD,aF,aJ,aK⟩|(simp [go_sem,aD,aF,aJ,aK])) (first
  |(go_at_call 85;have _t:=gC;refine (vD.o _ _ _ (hr1.ext (by exact ah.drew))).mono ?_;rintro e w2 ⟨a3,c3,rfl,hr3,hf3,hx2⟩;clear gC _t;obtain ⟨z0,z1,z2,⟨aD,aF,aM,aN⟩,⟨aJ,aK,aR,aS⟩,aZ,a_,bA,bB⟩:=bb3 aC aC aC A0 A1 A2 (hx1.drew.trans hx2);obtain ⟨z3,fV,fX,il,iq⟩:=bb1 aC A3 (hx1.drew.trans hx2))
  |(go_at_call 85;refine (CZ.o _ _ _ ((hr2.ext (by exact ah.drew)).ext hx2)).mono ?_;rintro e w3 ⟨a4,c4,rfl,hr4,J4,hx3⟩;obtain ⟨z0,z1,z2,⟨aD,aF,aM,aN⟩,⟨aJ,aK,aR,aS⟩,aZ,a_,bA,bB⟩:=bb3 aC aC aC A0 A1 A2 ((hx1.drew.trans hx2).trans hx3);obtain ⟨z3,fV,fX,il,iq⟩:=bb1 aC A3 ((hx1.drew.trans hx2).trans hx3)))
 go_upto_region 5 with fail
 have xx:Ext W w3:=(hx1.drew.trans hx2).trans hx3;have tt:Touch w.heap.size W.heap.size w3 ((((w3.setCell ⟨w.heap.size+1+1,0,none⟩ (.bool (decide (Q<0)))).setCell ⟨w.heap.size+1+1,1,none⟩ (.slice a3 (len Q.natAbs) c3)).setCell ⟨w.heap.size+1+1+1,0,none⟩ (.bool (decide (R<0)))).setCell ⟨w.heap.size+1+1+1,1,none⟩ (.slice a4 (len R.natAbs) c4)):=(Touch.two _ ae (by rw [Z0.o];omega) _ _).trans (Touch.two _ ae (by rw [Z0.o];omega) _ _);have D0:aY ((((w3.setCell ⟨w.heap.size+1+1,0,none⟩ (.bool (decide (Q<0)))).setCell ⟨w.heap.size+1+1,1,none⟩ (.slice a3 (len Q.natAbs) c3)).setCell ⟨w.heap.size+1+1+1,0,none⟩ (.bool (decide (R<0)))).setCell ⟨w.heap.size+1+1+1,1,none⟩ (.slice a4 (len R.natAbs) c4)) w.heap.size 61 [.bool s,.slice a k c]:=((A0.ext xx).iE _ _ ae).iE _ _ ae;have D1:aY ((((w3.setCell ⟨w.heap.size+1+1,0,none⟩ (.bool (decide (Q<0)))).setCell ⟨w.heap.size+1+1,1,none⟩ (.slice a3 (len Q.natAbs) c3)).setCell ⟨w.heap.size+1+1+1,0,none⟩ (.bool (decide (R<0)))).setCell ⟨w.heap.size+1+1+1,1,none⟩ (.slice a4 (len R.natAbs) c4)) (w.heap.size+1) 61 [.bool t,.slice b k' c']:=((A1.ext xx).iE _ _ ae).iE _ _ ae;have D2:aY ((((w3.setCell ⟨w.heap.size+1+1,0,none⟩ (.bool (decide (Q<0)))).setCell ⟨w.heap.size+1+1,1,none⟩ (.slice a3 (len Q.natAbs) c3)).setCell ⟨w.heap.size+1+1+1,0,none⟩ (.bool (decide (R<0)))).setCell ⟨w.heap.size+1+1+1,1,none⟩ (.slice a4 (len R.natAbs) c4)) (w.heap.size+2) 61 [.bool (decide (Q<0)),.slice a3 (len Q.natAbs) c3]:=((A2.ext xx).lY _ _).iE _ _ ae;have D3:aY ((((w3.setCell ⟨w.heap.size+1+1,0,none⟩ (.bool (decide (Q<0)))).setCell ⟨w.heap.size+1+1,1,none⟩ (.slice a3 (len Q.natAbs) c3)).setCell ⟨w.heap.size+1+1+1,0,none⟩ (.bool (decide (R<0)))).setCell ⟨w.heap.size+1+1+1,1,none⟩ (.slice a4 (len R.natAbs) c4)) (w.heap.size+3) 61 [.bool (decide (R<0)),.slice a4 (len R.natAbs) c4]:=((A3.ext xx).iE _ _ ae).lY _ _;have e4:=x0.bH xx tt;have f3:=hf3.mono (hx1.drew).size;have f4:=J4.mono ((hx1.drew).trans hx2).size;have r3:=(hr3.ext hx3).bH tt (Fr.o f3);have r4:=hr4.bH tt (Fr.o f4);have zw:=tt.size;generalize ((((w3.setCell ⟨w.heap.size+1+1,0,none⟩ (.bool (decide (Q<0)))).setCell ⟨w.heap.size+1+1,1,none⟩ (.slice a3 (len Q.natAbs) c3)).setCell ⟨w.heap.size+1+1+1,0,none⟩ (.bool (decide (R<0)))).setCell ⟨w.heap.size+1+1+1,1,none⟩ (.slice a4 (len R.natAbs) c4))=w4 at*;clear tt hr3 hr4 hf3 J4 hr1 hr2 jw hf2 vD CZ aD aF aM aN aJ aK aR aS aZ a_ bA bB fV fX il iq A0 A1 A2 A3;have F3:Fr w.heap.size a3:=f3.mono x0.size;have F4:Fr w.heap.size a4:=f4.mono x0.size;obtain ⟨aD,aF,aM,aN⟩:=aC D0 ah;obtain ⟨aJ,aK,aR,aS⟩:=aC D1 ah;obtain ⟨aZ,a_,bA,bB⟩:=aC D2 ah;obtain ⟨fV,fX,il,iq⟩:=aC D3 ah;have zW:=Z0.o;have HZW:=af zW;by_cases Wl:R<0
 .have hs1:s=true:=by
   cases s with
   |true=>rfl
   |false=>rw [HR.o,dy]at Wl;omega
  subst hs1;have LK:0<n % m:=by rw [HR.o,gD]at Wl;omega
  obtain ⟨q1,q2⟩:=tA (t:=t) hm LK;obtain ⟨M,hM⟩: ∃M:Int,M=(m:Int):=⟨_,rfl⟩;obtain ⟨R2,Bp⟩: ∃R2:Int,R2=R+M:=⟨_,rfl⟩
  have XB:bf true n % bf t m=R2:=by
   have:=Nat.mod_lt n hm;rw [q2,Bp,HR.o,hM,gD];omega
  have XC:decide (R2<0)=false:=decide_eq_false (by have:=Nat.mod_lt n hm;rw [Bp,HR.o,hM,gD];omega)
  have hA: ∀V,Ext w V->Calls prog 159 #[.agg #[.bool t,.slice b k' c']] V (bP M V):=by
   intro V hV;rw [hM];exact Ut V t b k' c' m (h'.ext hV)
  have XD:R.natAbs=n % m:=by rw [HR.o,bL]
  have hlr:len R.natAbs<900000000:=by
   have e1:=dt (Nat.le_of_lt (Nat.mod_lt n hm));have e2:=h'.cg;rw [XD];omega
  have hlM:len M.natAbs<900000000:=by
   have e2:=h'.cg;rw [hM,Int.natAbs_natCast];omega
  have hS: ∀V a' c',Ext w4 V->Raw V a' (len M.natAbs) c' M.natAbs->Calls prog 131 #[.agg #[.bool true,.slice a4 (len R.natAbs) c4],.agg #[.bool (decide (M<0)),.slice a' (len M.natAbs) c']] V (bP R2 V):=by
   intro V a' c' hV XE;have:=Dq V true (decide (M<0)) a4 a' _ c4 _ c' _ _ (r4.ext hV) XE ae ae;rw [df]at this;rw [Bp];rw [show bf true R.natAbs=R from by rw [<-decide_eq_true Wl];exact df R]at this;exact this
  have hlQ:len Q.natAbs<900000000:=by
   have e1:Q.natAbs=n/m:=by rw [HQ.o,bL]
   have e2:=dt (Nat.div_le_self n m);have e3:=h.cg;rw [e1];omega
  obtain ⟨ONE,Uw⟩: ∃O:Int,O=1:=⟨_,rfl⟩
  have hO: ∀V,Calls prog 38 #[.int .i64 1] V (bP ONE V):=by
   intro V;rw [Uw];exact nk V 1 ai ai
  have HA:=af hA;have HS:=af hS;have HO:=af hO
  have Dr:=af XB;have ahi:=af XC;have Br:=af Uw;have vD:=af q1
  clear hA hS hO q1 q2 Bp XB XC hM XD Uw LK;rw [decide_eq_true Wl]at*;go_upto_region 6 with fail
  go_cut [] (λwx=> ∃a6 c6,aY wx w.heap.size 61 [.bool true,.slice a k c]/\aY wx (w.heap.size+1) 61 [.bool t,.slice b k' c']/\aY wx (w.heap.size+2) 61 [.bool (decide (Q<0)),.slice a3 (len Q.natAbs) c3]/\aY wx (w.heap.size+3) 61 [.bool (decide (R2<0)),.slice a6 (len R2.natAbs) c6]/\Raw wx a6 (len R2.natAbs) c6 R2.natAbs/\Raw wx a3 (len Q.natAbs) c3 Q.natAbs/\Fr W.heap.size a6/\Ext w wx/\W.heap.size<=wx.heap.size)
  case first=>
   go_region_with (first
    |(go_at_call 159;refine (HA.o _ (by exact e4.drew)).mono ?_;rintro e w5 ⟨a5,c5,rfl,BZ,Qh,gl⟩;obtain ⟨aD,aF,aM,aN⟩:=aC D0 (ah.drew.trans gl);obtain ⟨aJ,aK,aR,aS⟩:=aC D1 (ah.drew.trans gl);obtain ⟨aZ,a_,bA,bB⟩:=aC D2 (ah.drew.trans gl);obtain ⟨fV,fX,il,iq⟩:=aC D3 (ah.drew.trans gl))
    |(go_at_call 131;refine (HS.o _ _ _ (by exact ah.drew.trans gl) BZ).mono ?_;rintro e w6 ⟨a6,c6,rfl,C_,SD,kZ⟩;obtain ⟨aD,aF,aM,aN⟩:=aC D0 ((ah.drew.trans gl).trans kZ);obtain ⟨aJ,aK,aR,aS⟩:=aC D1 ((ah.drew.trans gl).trans kZ);obtain ⟨aZ,a_,bA,bB⟩:=aC D2 ((ah.drew.trans gl).trans kZ);obtain ⟨fV,fX,il,iq⟩:=aC D3 ((ah.drew.trans gl).trans kZ)))
   all_goals go_wp2_with fail
   all_goals go_meet
   all_goals have Ux:Ext w4 w6:=(ah.drew.trans gl).trans kZ
   all_goals have zz6:W.heap.size<=w4.heap.size:=by rw [zw];exact xx.size
   all_goals have f6:Fr W.heap.size a6:=SD.mono (Nat.le_trans zz6 (Nat.le_trans ah.drew.size gl.size))
   all_goals have t6:=Touch.two (lo:=w.heap.size) (hi:=W.heap.size) (b:=w.heap.size+3) w6 ae ae (.bool (decide (R2<0))) (.slice a6 (len R2.natAbs) c6)
   all_goals exact ⟨a6,c6,(D0.ext Ux).iE _ _ ae,(D1.ext Ux).iE _ _ ae,(D2.ext Ux).iE _ _ ae,(D3.ext Ux).lY _ _,C_.bH t6 (Fr.o f6),(r3.ext Ux).bH t6 (Fr.o f3),f6,(e4.trans Ux).oQ t6,by rw [t6.size];exact Nat.le_trans zz6 Ux.size⟩
  case rest=>
   obtain ⟨a6,c6,E0,E1,E2,E3,r67,r37,f67,e7,zw7⟩:=hcut;obtain ⟨w7,rfl⟩: ∃w7:World,w7=wc:=⟨_,rfl⟩;clear D0 D1 D2 D3 aD aF aM aN aJ aK aR aS aZ a_ bA bB fV fX il iq r3 r4 HS HA;obtain ⟨aD,aF,aM,aN⟩:=aC E0 ah;obtain ⟨aJ,aK,aR,aS⟩:=aC E1 ah;obtain ⟨aZ,a_,bA,bB⟩:=aC E2 ah;obtain ⟨fV,fX,il,iq⟩:=aC E3 ah
   cases t with
   |true=>
    obtain ⟨Q2,Uy⟩: ∃Q2:Int,Q2=Q+ONE:=⟨_,rfl⟩
    have XF: ∀V a' c',Ext w7 V->Raw V a' (len ONE.natAbs) c' ONE.natAbs->Calls prog 131 #[.agg #[.bool (decide (Q<0)),.slice a3 (len Q.natAbs) c3],.agg #[.bool (decide (ONE<0)),.slice a' (len ONE.natAbs) c']] V (bP Q2 V):=by
     intro V a' c' hV XE;have:=Dq V (decide (Q<0)) (decide (ONE<0)) a3 a' _ c3 _ c' _ _ (r37.ext hV) XE ae (by rw [Br.o];decide);rw [df,df]at this;rw [Uy];exact this
    have XG:bf true n/bf true m=Q2:=by
     rw [vD.o,Uy,HQ.o,Br.o];simp [bf]
    have Qm:=af XF;have LJ:=af XG
    clear XF XG Uy;go_wp2_with fail
    go_region_with (first
     |(go_at_call 38;refine (HO.o _).mono ?_;rintro e w8 ⟨a8,c8,rfl,J6,Wj,lh⟩;obtain ⟨aD,aF,aM,aN⟩:=aC E0 (ah.drew.trans lh);obtain ⟨aJ,aK,aR,aS⟩:=aC E1 (ah.drew.trans lh);obtain ⟨aZ,a_,bA,bB⟩:=aC E2 (ah.drew.trans lh);obtain ⟨fV,fX,il,iq⟩:=aC E3 (ah.drew.trans lh))
     |(go_at_call 131;refine (Qm.o _ _ _ (by exact ah.drew.trans lh) J6).mono ?_;rintro e w9 ⟨a9,c9,rfl,Nl,ZW,tC⟩;obtain ⟨aD,aF,aM,aN⟩:=aC E0 ((ah.drew.trans lh).trans tC);obtain ⟨aJ,aK,aR,aS⟩:=aC E1 ((ah.drew.trans lh).trans tC);obtain ⟨aZ,a_,bA,bB⟩:=aC E2 ((ah.drew.trans lh).trans tC);obtain ⟨fV,fX,il,iq⟩:=aC E3 ((ah.drew.trans lh).trans tC)))
    all_goals have QZ:Ext w7 w9:=(ah.drew.trans lh).trans tC
    all_goals have f9:Fr W.heap.size a9:=ZW.mono (Nat.le_trans zw7 (Nat.le_trans ah.drew.size lh.size))
    all_goals go_upto_region 10 with fail
    all_goals have t9:=Touch.two (lo:=w.heap.size) (hi:=W.heap.size) (b:=w.heap.size+2) w9 ae ae (.bool (decide (Q2<0))) (.slice a9 (len Q2.natAbs) c9)
    all_goals have G2:=(E2.ext QZ).lY (.bool (decide (Q2<0))) (.slice a9 (len Q2.natAbs) c9)
    all_goals have G3:=(E3.ext QZ).iE (b':=w.heap.size+2) (.bool (decide (Q2<0))) (.slice a9 (len Q2.natAbs) c9) ae
    all_goals have e10:=(e7.trans QZ).oQ t9
    all_goals have r9:=Nl.bH t9 (Fr.o f9)
    all_goals have r6:=(r67.ext QZ).bH t9 (Fr.o f67)
    all_goals rw [show w.heap.size+1+1=w.heap.size+2 from rfl]
    all_goals generalize (w9.setCell ⟨w.heap.size+2,0,none⟩ (.bool (decide (Q2<0)))).setCell ⟨w.heap.size+2,1,none⟩ (.slice a9 (len Q2.natAbs) c9)=xZ at*
    all_goals obtain ⟨aZ,a_,bA,bB⟩:=aC G2 ah
    all_goals obtain ⟨fV,fX,il,iq⟩:=aC G3 ah
    all_goals go_wp2_with fail
    all_goals go_region
    all_goals go_wp2_with fail
    all_goals rw [LJ.o,Dr.o]
    all_goals exact bodyPost_ret (v:= .tuple #[.agg #[.bool (decide (Q2<0)),.slice a9 (len Q2.natAbs) c9],.agg #[.bool (decide (R2<0)),.slice a6 (len R2.natAbs) c6],.bool true]) (by simp [results,results83,go_sem,aZ,a_,fV,fX]) rfl (jl.of4 r9 r6 f9 f67 x0 e10 (((Touch.two _ ae ae _ _).trans (Touch.two _ ae ae _ _)).drew))
   |false=>
    obtain ⟨Q2,Uy⟩: ∃Q2:Int,Q2=Q-ONE:=⟨_,rfl⟩
    have XF: ∀V a' c',Ext w7 V->Raw V a' (len ONE.natAbs) c' ONE.natAbs->Calls prog 160 #[.agg #[.bool (decide (Q<0)),.slice a3 (len Q.natAbs) c3],.agg #[.bool (decide (ONE<0)),.slice a' (len ONE.natAbs) c']] V (bP Q2 V):=by
     intro V a' c' hV XE;have:=Uv V (decide (Q<0)) (decide (ONE<0)) a3 a' _ c3 _ c' _ _ (r37.ext hV) XE ae (by rw [Br.o];decide);rw [df,df]at this;rw [Uy];exact this
    have XG:bf true n/bf false m=Q2:=by
     rw [vD.o,Uy,HQ.o,Br.o];simp [bf];omega
    have Qm:=af XF;have LJ:=af XG
    clear XF XG Uy;go_wp2_with fail
    go_region_with (first
     |(go_at_call 38;refine (HO.o _).mono ?_;rintro e w8 ⟨a8,c8,rfl,J6,Wj,lh⟩;obtain ⟨aD,aF,aM,aN⟩:=aC E0 (ah.drew.trans lh);obtain ⟨aJ,aK,aR,aS⟩:=aC E1 (ah.drew.trans lh);obtain ⟨aZ,a_,bA,bB⟩:=aC E2 (ah.drew.trans lh);obtain ⟨fV,fX,il,iq⟩:=aC E3 (ah.drew.trans lh))
     |(go_at_call 160;refine (Qm.o _ _ _ (by exact ah.drew.trans lh) J6).mono ?_;rintro e w9 ⟨a9,c9,rfl,Nl,ZW,tC⟩;obtain ⟨aD,aF,aM,aN⟩:=aC E0 ((ah.drew.trans lh).trans tC);obtain ⟨aJ,aK,aR,aS⟩:=aC E1 ((ah.drew.trans lh).trans tC);obtain ⟨aZ,a_,bA,bB⟩:=aC E2 ((ah.drew.trans lh).trans tC);obtain ⟨fV,fX,il,iq⟩:=aC E3 ((ah.drew.trans lh).trans tC)))
    all_goals have QZ:Ext w7 w9:=(ah.drew.trans lh).trans tC
    all_goals have f9:Fr W.heap.size a9:=ZW.mono (Nat.le_trans zw7 (Nat.le_trans ah.drew.size lh.size))
    all_goals go_upto_region 10 with fail
    all_goals have t9:=Touch.two (lo:=w.heap.size) (hi:=W.heap.size) (b:=w.heap.size+2) w9 ae ae (.bool (decide (Q2<0))) (.slice a9 (len Q2.natAbs) c9)
    all_goals have G2:=(E2.ext QZ).lY (.bool (decide (Q2<0))) (.slice a9 (len Q2.natAbs) c9)
    all_goals have G3:=(E3.ext QZ).iE (b':=w.heap.size+2) (.bool (decide (Q2<0))) (.slice a9 (len Q2.natAbs) c9) ae
    all_goals have e10:=(e7.trans QZ).oQ t9
    all_goals have r9:=Nl.bH t9 (Fr.o f9)
    all_goals have r6:=(r67.ext QZ).bH t9 (Fr.o f67)
    all_goals rw [show w.heap.size+1+1=w.heap.size+2 from rfl]
    all_goals generalize (w9.setCell ⟨w.heap.size+2,0,none⟩ (.bool (decide (Q2<0)))).setCell ⟨w.heap.size+2,1,none⟩ (.slice a9 (len Q2.natAbs) c9)=xZ at*
    all_goals obtain ⟨aZ,a_,bA,bB⟩:=aC G2 ah
    all_goals obtain ⟨fV,fX,il,iq⟩:=aC G3 ah
    all_goals go_wp2_with fail
    all_goals go_region
    all_goals go_wp2_with fail
    all_goals rw [LJ.o,Dr.o]
    all_goals exact bodyPost_ret (v:= .tuple #[.agg #[.bool (decide (Q2<0)),.slice a9 (len Q2.natAbs) c9],.agg #[.bool (decide (R2<0)),.slice a6 (len R2.natAbs) c6],.bool true]) (by simp [results,results83,go_sem,aZ,a_,fV,fX]) rfl (jl.of4 r9 r6 f9 f67 x0 e10 (((Touch.two _ ae ae _ _).trans (Touch.two _ ae ae _ _)).drew))
 .have hres:bf s n/bf t m=Q/\bf s n % bf t m=R:=by
   have hc:s=false\/n % m=0:=by
    by_cases rY:n % m=0
    .exact Or.inr rY
    .cases s with
     |false=>exact Or.inl rfl
     |true=>exact absurd (by rw [HR.o,gD];omega) Wl
   obtain ⟨q1,q2⟩:=rX (s:=s) (t:=t) hm hc;refine ⟨by rw [q1,HQ.o],?_⟩;rw [q2,HR.o];rcases hc with hc|hc
   .rw [hc,dy]
   .rw [hc,qO];rfl
  have XH:=af hres;clear hres
  have hdR:0<=R:=ae;rw [decide_eq_false Wl]at*;go_wp2_with fail
  go_region
  all_goals go_wp2_with fail
  all_goals rw [XH.o.1,XH.o.2]
  all_goals exact bodyPost_ret (v:= .tuple #[.agg #[.bool (decide (Q<0)),.slice a3 (len Q.natAbs) c3],.agg #[.bool (decide (R<0)),.slice a4 (len R.natAbs) c4],.bool true]) (by simp [results,results83,go_sem,aZ,a_,fV,fX,hdR]) rfl (jl.of4 r3 r4 f3 f4 x0 e4 (((Touch.two _ ae ae _ _).trans (Touch.two _ ae ae _ _)).drew))
theorem LL (w:World):Raw (w.alloc (Obj.cells #[] 93)) (some ⟨w.heap.size,0,none⟩) 0 0 0:=
 ⟨[],rfl,rfl,⟨bm,ae,bm,(λe=>by cases e),Small.nil,λ_ h=>by cases h⟩⟩
theorem Ds (w:World):Calls prog 17 #[] w (bD 0 w):=by
 have r0:=LL (w.alloc (.cells #[.bool false,.slice (some ⟨w.heap.size+1,0,none⟩) 0 0,.slice (some ⟨w.heap.size+1+1,0,none⟩) 1 1] 63));have r1:=qT ((w.alloc (.cells #[.bool false,.slice (some ⟨w.heap.size+1,0,none⟩) 0 0,.slice (some ⟨w.heap.size+1+1,0,none⟩) 1 1] 63)).alloc (Obj.cells #[] 93));have e0:Ext w (w.alloc (.cells #[.bool false,.slice (some ⟨w.heap.size+1,0,none⟩) 0 0,.slice (some ⟨w.heap.size+1+1,0,none⟩) 1 1] 63)):=ah.alloc _;rw [show(w.alloc (.cells #[.bool false,.slice (some ⟨w.heap.size+1,0,none⟩) 0 0,.slice (some ⟨w.heap.size+1+1,0,none⟩) 1 1] 63)).heap.size=w.heap.size+1 from by simp]at r0;rw [show((w.alloc (.cells #[.bool false,.slice (some ⟨w.heap.size+1,0,none⟩) 0 0,.slice (some ⟨w.heap.size+1+1,0,none⟩) 1 1] 63)).alloc (Obj.cells #[] 93)).heap.size=w.heap.size+1+1 from by simp]at r1;go_enter func17,ntmps17
 go_wp2
 exact bodyPost_ret (v:= .agg #[.bool false,.slice (some ⟨w.heap.size+1,0,none⟩) 0 0,.slice (some ⟨w.heap.size+1+1,0,none⟩) 1 1]) (by simp [results,results17,go_sem]) rfl
  ⟨_,0,_,1,rfl,r0.ext (ah.alloc _),Fr.some ae,r1,Fr.some ae,(e0.alloc _).alloc _⟩
theorem vP (t:Bool) (m:Nat) (hm:0<m):decide (bf t m<0)=t:=by
 rw [uH];simp [hm]
theorem Ce {l:List Nat} (hs:Small l) (hl:l.length=len (val l)):l= [1]↔val l=1:=by
 constructor
 .intro h;rw [h];rfl
 .intro h
  have h1:l.length=1:=by rw [hl,h];exact ze
  exact val_inj hs (Small.one ai) (by rw [h1];rfl) (by rw [h];rfl)
theorem Fw (s t:Bool) (n m:Nat) (hm:0<m):(mkRat (bf (s !=t) n) m).num.natAbs=n/Nat.gcd n m/\(mkRat (bf (s !=t) n) m).den=m/Nat.gcd n m/\decide ((mkRat (bf (s !=t) n) m).num<0)=decide (bf (s !=t) (n/Nat.gcd n m)<0):=by
 have h1:=iC (bf (s !=t) n) m hm;have h2:=nh (bf (s !=t) n) m hm;have h3:=lN (bf (s !=t) n) m hm;rw [bL,Nat.gcd_comm]at h1 h2;refine ⟨h1,h2,?_⟩;rw [h3,uH,uH];congr 2
 have hg:0<Nat.gcd n m:=Nat.gcd_pos_of_pos_right _ hm;by_cases h:0<n
 .have:0<n/Nat.gcd n m:=Nat.div_pos (Nat.le_of_dvd h (Nat.gcd_dvd_left n m)) hg
  simp [h,this]
 .have:n=0:=ae
  subst this;simp
theorem Dt (w:World) (s t:Bool) (a b:Option Addr) (k c k' c' n m:Nat) (_h:Raw w a k c n) (h':Raw w b k' c' m) (hm:m=0):
 Calls prog 37 #[.agg #[.bool s,.slice a k c],.agg #[.bool t,.slice b k' c']] w (bD (mkRat (bf (s !=t) n) m) w):=by
 rw [hm,Rat.mkRat_zero]
 have hS: ∀V,Ext w V->Calls prog 50 #[.agg #[.bool t,.slice b k' c']] V λe w'=>e= .returned (.int .i64 0)/\Ext V w':=by
  intro V hV;have:=uP V t b k' c' m (h'.ext hV);rw [hm,qO]at this;exact this
 have HS:=af hS;clear hS
 go_enter func37,ntmps37
 go_wp2_with fail
 obtain ⟨W,hW,x0,Z0,A0,A1,A2⟩:=et w 61 [.bool s,.slice a k c] 61 [.bool t,.slice b k' c'] 63 [.bool false,.slice none 0 0,.slice none 0 0];rw [<-hW];clear hW;obtain ⟨z0,z1,z2,⟨aD,aF,aM,aN⟩,⟨aJ,aK,aR,aS⟩,aZ,a_,bW,bA,bB,cf⟩:=bb3 aC aC aA A0 A1 A2 ah;refine (HS.o _ x0).mono ?_;rintro e w1 ⟨rfl,x1⟩;obtain ⟨z0,z1,z2,⟨aD,aF,aM,aN⟩,⟨aJ,aK,aR,aS⟩,aZ,a_,bW,bA,bB,cf⟩:=bb3 aC aC aA A0 A1 A2 x1;go_wp2_with fail
 refine (Ds _).mono ?_;intro e w2 hN;obtain ⟨a2,c2,a3,c3,rfl,r2,f2,r3,f3,x2⟩:=id hN;obtain ⟨z0,z1,z2,⟨aD,aF,aM,aN⟩,⟨aJ,aK,aR,aS⟩,aZ,a_,bW,bA,bB,cf⟩:=bb3 aC aC aA A0 A1 A2 (x1.trans x2);go_wp2
 exact bodyPost_ret (by simp [results,results37,go_sem, *]) rfl (bD.bH (hN.base x1) x0 (Touch.three _ ae (by rw [Z0.o];omega) _ _ _))
theorem Fx (w:World) (s:Bool) (a b:Option Addr) (k c k' c' n:Nat) (h:Raw w a k c n) (h':Raw w b k' c' 1):
 Calls prog 37 #[.agg #[.bool s,.slice a k c],.agg #[.bool false,.slice b k' c']] w (bD (mkRat (bf (s !=false) n) 1) w):=by
 obtain ⟨m,qN⟩: ∃m:Nat,m=1:=⟨_,rfl⟩;have hm:0<m:=ae;rw [<-qN]at h';obtain ⟨t,ht⟩: ∃t:Bool,t=false:=⟨_,rfl⟩;rw [<-ht];have hS: ∀V,Ext w V->Calls prog 50 #[.agg #[.bool t,.slice b k' c']] V λe w'=>e= .returned (.int .i64 (bf t m).sign)/\Ext V w':=λV hV=>uP V t b k' c' m (h'.ext hV)
 have Uz:((bf t m).sign==0)=false:=by
  rw [beq_eq_false_iff_ne];cases t with
  |true=>rw [gD,Int.sign_eq_neg_one_of_neg ae];decide
  |false=>rw [dy,Int.sign_eq_one_of_pos ae];decide
 generalize (bf t m).sign=sg at hS Uz
 have hN: ∀V,Ext w V->Calls prog 80 #[.agg #[.bool t,.slice b k' c']] V λe w'=> ∃a1 c1,e= .returned (.agg #[.bool t,.slice a1 (len m) c1])/\Raw w' a1 (len m) c1 m/\Fr V.heap.size a1/\Ext V w':=by
  intro V hV;refine (se V t b k' c' m (h'.ext hV)).mono ?_;rintro e w' ⟨a1,c1,he,hr,hf,hx⟩;rw [bL]at he hr;rw [vP t m hm]at he;exact ⟨a1,c1,he,hr,hf,hx⟩
 have HS:=af hS;have HN:=af hN;clear hS hN
 have hNn: ∀V,Ext w V->Calls prog 80 #[.agg #[.bool s,.slice a k c]] V (bP (bf s n) V):=λV hV=>se V s a k c n (h.ext hV);obtain ⟨Z,hZ⟩: ∃Z,Z=bf s n:=⟨_,rfl⟩;rw [<-hZ]at hNn;obtain ⟨q,hq⟩: ∃q:Rat,q=mkRat (bf (s !=t) n) 1:=⟨_,rfl⟩
 have pE:q.num=Z/\q.den=1:=by
  have e:q=((bf s n:Int):Rat):=by rw [hq,ht,Bool.bne_false,Rat.mkRat_one]
  rw [e,hZ];exact ⟨rfl,rfl⟩
 rw [<-hq];have SQ:=af hNn;have HQ:=af pE;have UA:=af qN
 clear hNn pE hq hZ qN;subst ht;go_enter func37,ntmps37
 go_wp2_with fail
 obtain ⟨W,hW,x0,Z0,A0,A1,A2⟩:=et w 61 [.bool s,.slice a k c] 61 [.bool false,.slice b k' c'] 63 [.bool false,.slice none 0 0,.slice none 0 0];rw [<-hW];clear hW;obtain ⟨z0,z1,z2,⟨aD,aF,aM,aN⟩,⟨aJ,aK,aR,aS⟩,aZ,a_,bW,bA,bB,cf⟩:=bb3 aC aC aA A0 A1 A2 ah;refine (HS.o _ x0).mono ?_;rintro e w1 ⟨rfl,x1⟩;obtain ⟨z0,z1,z2,⟨aD,aF,aM,aN⟩,⟨aJ,aK,aR,aS⟩,aZ,a_,bW,bA,bB,cf⟩:=bb3 aC aC aA A0 A1 A2 x1;go_wp2_with fail
 refine (HN.o _ (x0.trans x1)).mono ?_;rintro e w2 ⟨a1,c1,rfl,r1,f1,x2⟩;obtain ⟨z0,z1,z2,⟨aD,aF,aM,aN⟩,⟨aJ,aK,aR,aS⟩,aZ,a_,bW,bA,bB,cf⟩:=bb3 aC aC aA A0 A1 A2 (x1.trans x2);go_upto_region 4 with fail
 obtain ⟨W2,hW2,y2,ZZ2,P0⟩:=bS w2 61 [.bool false,.slice a1 (len m) c1];rw [<-hW2];clear hW2;have g2:Ext W W2:=(x1.trans x2).trans y2;obtain ⟨z0,z1,z2,⟨aD,aF,aM,aN⟩,⟨aJ,aK,aR,aS⟩,aZ,a_,bW,bA,bB,cf⟩:=bb3 aC aC aA A0 A1 A2 g2;obtain ⟨IB,LM,Q0,Q5⟩:=aC P0 ah;go_wp2_with fail
 have o1:=qT W2;have y3:Ext W2 (W2.alloc (Obj.cells #[.int .u32 1] 93)):=ah.alloc _;obtain ⟨l,hl,hv,hA⟩:=(r1.ext y2).ext y3;obtain ⟨l',hl',hv',hA'⟩:=o1;have UB:=Fm _ _ _ _ _ l l' hA hA';have XI:l'= [1]:=val_inj hA'.small (Small.one ai) (by rw [hl'];rfl) (by rw [hv'];rfl);have el:l= [1]:=(Ce hA.small (by rw [hl,hv])).2 (by rw [hv,UA.o]);rw [decide_eq_true (show l=l' by rw [el,XI]),hl,hl']at UB;clear hA hA' hl hl' hv hv' el XI;refine UB.mono ?_;rintro e w3 ⟨rfl,Z8⟩;clear UB;have g3:Ext W w3:=(g2.trans y3).trans Z8.ext;have v3:Ext W2 w3:=y3.trans Z8.ext;obtain ⟨z0,z1,z2,⟨aD,aF,aM,aN⟩,⟨aJ,aK,aR,aS⟩,aZ,a_,bW,bA,bB,cf⟩:=bb3 aC aC aA A0 A1 A2 g3;obtain ⟨IB,LM,Q0,Q5⟩:=aC P0 v3;go_wp2_with fail
 go_region_held3 (λw'=>w'.cell? ⟨w.heap.size,0,none⟩=some (.bool s)/\w'.cell? ⟨w.heap.size,1,none⟩=some (.slice a k c)/\w'.cell? ⟨w2.heap.size,0,none⟩=some (.bool false)/\w'.cell? ⟨w2.heap.size,1,none⟩=some (.slice a1 (len m) c1)) (first|exact ⟨aD,aF,IB,LM⟩|(simp [go_sem,aD,aF,IB,LM])) (first
  |(go_at_call 80;refine (SQ.o _ (by exact x0.trans g3.drew)).mono ?_;rintro e w4 ⟨a4,c4,rfl,r4,f4,x4⟩;obtain ⟨z0,z1,z2,⟨aD,aF,aM,aN⟩,⟨aJ,aK,aR,aS⟩,aZ,a_,bW,bA,bB,cf⟩:=bb3 aC aC aA A0 A1 A2 (g3.drew.trans x4);obtain ⟨IB,LM,Q0,Q5⟩:=aC P0 (v3.drew.trans x4)))
 go_wp2_with fail
 have zz:=Z0.o;have rN:Raw w4 a4 (len q.num.natAbs) c4 q.num.natAbs:=by rw [HQ.o.1];exact r4
 have rD:Raw w4 a1 (len q.den) c1 q.den:=by rw [HQ.o.2,<-UA.o];exact (r1.ext y2).ext (v3.drew.trans x4)
 have fin:bD q W (.returned (.agg #[.bool (decide (q.num<0)),.slice a4 (len q.num.natAbs) c4,.slice a1 (len q.den) c1])) w4:=⟨_,_,_,_,rfl,rN,f4.mono g3.drew.size,rD,f1.mono x1.size,g3.drew.trans x4⟩;rw [HQ.o.1,HQ.o.2,<-UA.o]at fin;exact bodyPost_ret (by simp [results,results37,go_sem,aZ,a_,bW]) rfl (bD.bH fin x0 (Touch.three _ ae ae _ _ _))
theorem Bt (w:World) (s t:Bool) (a b:Option Addr) (k c k' c' n m:Nat) (h:Raw w a k c n) (h':Raw w b k' c' m) (ht:t=false) (hm:0<m) (b1:k<900000000) (b2:k'<900000000) (qN:m≠1):
 Calls prog 37 #[.agg #[.bool s,.slice a k c],.agg #[.bool t,.slice b k' c']] w (bD (mkRat (bf (s !=t) n) m) w):=by
 have hS: ∀V,Ext w V->Calls prog 50 #[.agg #[.bool t,.slice b k' c']] V λe w'=>e= .returned (.int .i64 (bf t m).sign)/\Ext V w':=λV hV=>uP V t b k' c' m (h'.ext hV)
 have Uz:((bf t m).sign==0)=false:=by
  rw [beq_eq_false_iff_ne];cases t with
  |true=>rw [gD,Int.sign_eq_neg_one_of_neg ae];decide
  |false=>rw [dy,Int.sign_eq_one_of_pos ae];decide
 generalize (bf t m).sign=sg at hS Uz
 have hN: ∀V,Ext w V->Calls prog 80 #[.agg #[.bool t,.slice b k' c']] V λe w'=> ∃a1 c1,e= .returned (.agg #[.bool t,.slice a1 (len m) c1])/\Raw w' a1 (len m) c1 m/\Fr V.heap.size a1/\Ext V w':=by
  intro V hV;refine (se V t b k' c' m (h'.ext hV)).mono ?_;rintro e w' ⟨a1,c1,he,hr,hf,hx⟩;rw [bL]at he hr;rw [vP t m hm]at he;exact ⟨a1,c1,he,hr,hf,hx⟩
 have HS:=af hS;have HN:=af hN;clear hS hN
 have Qi:=h.cg;have Hp:=h'.cg;have hg0:0<Nat.gcd n m:=Nat.gcd_pos_of_pos_right _ hm;have Qn:len (Nat.gcd n m)<=len m:=dt (Nat.le_of_dvd hm (Nat.gcd_dvd_right n m));have Z9:0<m/Nat.gcd n m:=Nat.div_pos (Nat.le_of_dvd hm (Nat.gcd_dvd_right n m)) hg0
 have hG: ∀V,Ext w V->Calls prog 82 #[.agg #[.bool s,.slice a k c],.agg #[.bool t,.slice b k' c']] V λe w'=> ∃a1 c1,e= .returned (.agg #[.bool false,.slice a1 (len (Nat.gcd n m)) c1])/\Raw w' a1 (len (Nat.gcd n m)) c1 (Nat.gcd n m)/\Ext V w':=by
  intro V hV;refine (Oe V s t a b k c k' c' n m (h.ext hV) (h'.ext hV) ae ae).mono ?_;rintro e w' ⟨a1,c1,he,hr,hf,hx⟩;rw [Int.natAbs_natCast]at he hr;rw [decide_eq_false ae]at he;exact ⟨a1,c1,he,hr,hx⟩
 have hD: ∀(V:World) (u:Bool) (a':Option Addr) (j d x:Nat) (a2:Option Addr) (c2:Nat),Raw V a' j d x->j<900000000->x % Nat.gcd n m=0->Raw V a2 (len (Nat.gcd n m)) c2 (Nat.gcd n m)->Calls prog 83 #[.agg #[.bool u,.slice a' j d],.agg #[.bool false,.slice a2 (len (Nat.gcd n m)) c2]] V λe w'=> ∃a3 c3 a4 c4,e= .returned (.tuple #[.agg #[.bool (decide (bf u (x/Nat.gcd n m)<0)),.slice a3 (len (x/Nat.gcd n m)) c3],.agg #[.bool false,.slice a4 0 c4],.bool true])/\Raw w' a3 (len (x/Nat.gcd n m)) c3 (x/Nat.gcd n m)/\Fr V.heap.size a3/\Ext V w':=by
  intro V u a' j d x a2 c2 hR hj hx0 Bp;have:=vO V u false a' a2 j d _ c2 x _ hR Bp hg0 hj ae;obtain ⟨q1,q2⟩:=rX (s:=u) (t:=false) (n:=x) hg0 (Or.inr hx0);rw [q1,q2,hx0,Bool.bne_false]at this;refine this.mono ?_;rintro e w' ⟨a3,c3,a4,c4,he,hr3,hf3,hr4,J4,hx⟩;rw [bL]at he hr3;exact ⟨a3,c3,a4,c4,he,hr3,hf3,hx⟩
 have hx1:n % Nat.gcd n m=0:=Nat.mod_eq_zero_of_dvd (Nat.gcd_dvd_left n m);have hx2:m % Nat.gcd n m=0:=Nat.mod_eq_zero_of_dvd (Nat.gcd_dvd_right n m);obtain ⟨m1,m2,m3⟩:=Fw s t n m hm;obtain ⟨q,hq⟩: ∃q:Rat,q=mkRat (bf (s !=t) n) m:=⟨_,rfl⟩;rw [<-hq]at m1 m2 m3⊢;have XJ:=vP t _ Z9
 have Cf: ∀(V:World) (a2:Option Addr) (c2:Nat),Ext w V->Raw V a2 (len (Nat.gcd n m)) c2 (Nat.gcd n m)->Calls prog 83 #[.agg #[.bool t,.slice b k' c'],.agg #[.bool false,.slice a2 (len (Nat.gcd n m)) c2]] V λe w'=> ∃a3 c3 a4 c4,e= .returned (.tuple #[.agg #[.bool t,.slice a3 (len (m/Nat.gcd n m)) c3],.agg #[.bool false,.slice a4 0 c4],.bool true])/\Raw w' a3 (len (m/Nat.gcd n m)) c3 (m/Nat.gcd n m)/\Fr V.heap.size a3/\Ext V w':=by
  intro V a2 c2 hV Bp;have:=hD V t b k' c' m a2 c2 (h'.ext hV) b2 hx2 Bp;rw [XJ]at this;exact this
 have UC: ∀(V:World) (a2:Option Addr) (c2:Nat),Ext w V->Raw V a2 (len (Nat.gcd n m)) c2 (Nat.gcd n m)->Calls prog 83 #[.agg #[.bool s,.slice a k c],.agg #[.bool false,.slice a2 (len (Nat.gcd n m)) c2]] V λe w'=> ∃a3 c3 a4 c4,e= .returned (.tuple #[.agg #[.bool (decide (bf s (n/Nat.gcd n m)<0)),.slice a3 (len (n/Nat.gcd n m)) c3],.agg #[.bool false,.slice a4 0 c4],.bool true])/\Raw w' a3 (len (n/Nat.gcd n m)) c3 (n/Nat.gcd n m)/\Fr V.heap.size a3/\Ext V w':=λV a2 c2 hV Bp=>hD V s a k c n a2 c2 (h.ext hV) b1 hx1 Bp;have BS:=dt (Nat.div_le_self n (Nat.gcd n m));have hl2:=dt (Nat.div_le_self m (Nat.gcd n m));generalize n/Nat.gcd n m=N at*;generalize m/Nat.gcd n m=D at*;generalize Nat.gcd n m=G at*;obtain ⟨sN,UD⟩: ∃sN,sN=decide (bf s N<0):=⟨_,rfl⟩;rw [<-UD]at UC;have HG:=af hG;have LN:=af UC;have yf:=af Cf
 have M1:=af m1;have M2:=af m2;have M3:=af m3;have HSN:=af UD;have HQ:=af hq
 clear hG hD UC Cf hx1 hx2 m1 m2 m3 hq XJ UD;subst ht;go_enter func37,ntmps37
 go_wp2_with fail
 obtain ⟨W,hW,x0,Z0,A0,A1,A2⟩:=et w 61 [.bool s,.slice a k c] 61 [.bool false,.slice b k' c'] 63 [.bool false,.slice none 0 0,.slice none 0 0];rw [<-hW];clear hW;obtain ⟨z0,z1,z2,⟨aD,aF,aM,aN⟩,⟨aJ,aK,aR,aS⟩,aZ,a_,bW,bA,bB,cf⟩:=bb3 aC aC aA A0 A1 A2 ah;refine (HS.o _ x0).mono ?_;rintro e w1 ⟨rfl,x1⟩;obtain ⟨z0,z1,z2,⟨aD,aF,aM,aN⟩,⟨aJ,aK,aR,aS⟩,aZ,a_,bW,bA,bB,cf⟩:=bb3 aC aC aA A0 A1 A2 x1;go_wp2_with fail
 refine (HN.o _ (x0.trans x1)).mono ?_;rintro e w2 ⟨a1,c1,rfl,r1,f1,x2⟩;obtain ⟨z0,z1,z2,⟨aD,aF,aM,aN⟩,⟨aJ,aK,aR,aS⟩,aZ,a_,bW,bA,bB,cf⟩:=bb3 aC aC aA A0 A1 A2 (x1.trans x2);go_upto_region 4 with fail
 obtain ⟨W2,hW2,y2,ZZ2,P0⟩:=bS w2 61 [.bool false,.slice a1 (len m) c1];rw [<-hW2];clear hW2;have g2:Ext W W2:=(x1.trans x2).trans y2;obtain ⟨z0,z1,z2,⟨aD,aF,aM,aN⟩,⟨aJ,aK,aR,aS⟩,aZ,a_,bW,bA,bB,cf⟩:=bb3 aC aC aA A0 A1 A2 g2;have IB:=aC P0 ah;go_wp2_with fail
 have o1:=qT W2;have y3:Ext W2 (W2.alloc (Obj.cells #[.int .u32 1] 93)):=ah.alloc _;obtain ⟨l,hl,hv,hA⟩:=(r1.ext y2).ext y3;obtain ⟨l',hl',hv',hA'⟩:=o1;have UB:=Fm _ _ _ _ _ l l' hA hA';have XI:l'= [1]:=val_inj hA'.small (Small.one ai) (by rw [hl'];rfl) (by rw [hv'];rfl)
 have el: ¬l=l':=by
  intro h5;rw [XI]at h5;have:=(Ce hA.small (by rw [hl,hv])).1 h5;rw [hv]at this;exact qN this
 rw [decide_eq_false el,hl,hl']at UB;clear hA hA' hl hl' hv hv' el XI;refine UB.mono ?_;rintro e w3 ⟨rfl,Z8⟩;clear UB;have g3:Ext W w3:=(g2.trans y3).trans Z8.ext;obtain ⟨z0,z1,z2,⟨aD,aF,aM,aN⟩,⟨aJ,aK,aR,aS⟩,aZ,a_,bW,bA,bB,cf⟩:=bb3 aC aC aA A0 A1 A2 g3;go_wp2_with fail
 refine (HG.o _ (x0.trans g3)).mono ?_;rintro e w4 ⟨a4,c4,rfl,r4,x4⟩;go_upto_region 7 with fail
 obtain ⟨W4,Nq,y4,ZZ4,P1⟩:=bS w4 61 [.bool false,.slice a4 (len G) c4];rw [<-Nq];clear Nq;have g4:Ext W W4:=(g3.trans x4).trans y4;obtain ⟨z0,z1,z2,⟨aD,aF,aM,aN⟩,⟨aJ,aK,aR,aS⟩,aZ,a_,bW,bA,bB,cf⟩:=bb3 aC aC aA A0 A1 A2 g4;have UE:=aC P1 ah;go_wp2_with fail
 refine (LN.o _ _ _ (x0.trans g4) (r4.ext y4)).mono ?_;rintro e w5 ⟨a5,c5,a6,c6,rfl,r5,f5,x5⟩;go_upto_region 8 with fail
 obtain ⟨W5,t_,y5,ZZ5,P2,P3⟩:=dV w5 61 [.bool sN,.slice a5 (len N) c5] 61 [.bool false,.slice a6 0 c6];rw [<-t_];clear t_;have g5:Ext W W5:=(g4.trans x5).trans y5;obtain ⟨z0,z1,z2,⟨aD,aF,aM,aN⟩,⟨aJ,aK,aR,aS⟩,aZ,a_,bW,bA,bB,cf⟩:=bb3 aC aC aA A0 A1 A2 g5;have UE:=aC P1 (x5.trans y5);have IC:=aC P2 ah;go_wp2_with fail
 refine (yf.o _ _ _ (x0.trans g5) (((r4.ext y4).ext x5).ext y5)).mono ?_;rintro e w6 ⟨a7,c7,a8,c8,rfl,r7,f7,x6⟩;go_upto_region 9 with fail
 obtain ⟨W6,SR,y6,ZZ6,P4,P5⟩:=dV w6 61 [.bool false,.slice a7 (len D) c7] 61 [.bool false,.slice a8 0 c8];rw [<-SR];clear SR;have g6:Ext W W6:=(g5.trans x6).trans y6;have v6:Ext W5 W6:=x6.trans y6;obtain ⟨z0,z1,z2,⟨aD,aF,aM,aN⟩,⟨aJ,aK,aR,aS⟩,aZ,a_,bW,bA,bB,cf⟩:=bb3 aC aC aA A0 A1 A2 g6;have IC:=aC P2 v6;have Oh:=aC P4 ah;have zz:=Z0.o;go_wp2_with fail
 have rN:Raw W6 a5 (len q.num.natAbs) c5 q.num.natAbs:=by rw [M1.o];exact (r5.ext y5).ext v6
 have rD:Raw W6 a7 (len q.den) c7 q.den:=by rw [M2.o];exact r7.ext y6
 have fin:bD q W (.returned (.agg #[.bool (decide (q.num<0)),.slice a5 (len q.num.natAbs) c5,.slice a7 (len q.den) c7])) W6:=⟨_,_,_,_,rfl,rN,f5.mono g4.size,rD,f7.mono g5.size,g6⟩;rw [M1.o,M2.o,M3.o,Bool.bne_false,<-HSN.o]at fin;exact bodyPost_ret (by simp [results,results37,go_sem,aZ,a_,bW]) rfl (bD.bH fin x0 (Touch.three _ ae ae _ _ _))
theorem Du (w:World) (s t:Bool) (a b:Option Addr) (k c k' c' n m:Nat) (h:Raw w a k c n) (h':Raw w b k' c' m) (ht:t=true) (hm:0<m) (b1:k<900000000) (b2:k'<900000000):
 Calls prog 37 #[.agg #[.bool s,.slice a k c],.agg #[.bool t,.slice b k' c']] w (bD (mkRat (bf (s !=t) n) m) w):=by
 have hS: ∀V,Ext w V->Calls prog 50 #[.agg #[.bool t,.slice b k' c']] V λe w'=>e= .returned (.int .i64 (bf t m).sign)/\Ext V w':=λV hV=>uP V t b k' c' m (h'.ext hV)
 have Uz:((bf t m).sign==0)=false:=by
  rw [beq_eq_false_iff_ne];cases t with
  |true=>rw [gD,Int.sign_eq_neg_one_of_neg ae];decide
  |false=>rw [dy,Int.sign_eq_one_of_pos ae];decide
 generalize (bf t m).sign=sg at hS Uz
 have hN: ∀V,Ext w V->Calls prog 80 #[.agg #[.bool t,.slice b k' c']] V λe w'=> ∃a1 c1,e= .returned (.agg #[.bool t,.slice a1 (len m) c1])/\Raw w' a1 (len m) c1 m/\Fr V.heap.size a1/\Ext V w':=by
  intro V hV;refine (se V t b k' c' m (h'.ext hV)).mono ?_;rintro e w' ⟨a1,c1,he,hr,hf,hx⟩;rw [bL]at he hr;rw [vP t m hm]at he;exact ⟨a1,c1,he,hr,hf,hx⟩
 have HS:=af hS;have HN:=af hN;clear hS hN
 have Qi:=h.cg;have Hp:=h'.cg;have hg0:0<Nat.gcd n m:=Nat.gcd_pos_of_pos_right _ hm;have Qn:len (Nat.gcd n m)<=len m:=dt (Nat.le_of_dvd hm (Nat.gcd_dvd_right n m));have Z9:0<m/Nat.gcd n m:=Nat.div_pos (Nat.le_of_dvd hm (Nat.gcd_dvd_right n m)) hg0
 have hG: ∀V,Ext w V->Calls prog 82 #[.agg #[.bool s,.slice a k c],.agg #[.bool t,.slice b k' c']] V λe w'=> ∃a1 c1,e= .returned (.agg #[.bool false,.slice a1 (len (Nat.gcd n m)) c1])/\Raw w' a1 (len (Nat.gcd n m)) c1 (Nat.gcd n m)/\Ext V w':=by
  intro V hV;refine (Oe V s t a b k c k' c' n m (h.ext hV) (h'.ext hV) ae ae).mono ?_;rintro e w' ⟨a1,c1,he,hr,hf,hx⟩;rw [Int.natAbs_natCast]at he hr;rw [decide_eq_false ae]at he;exact ⟨a1,c1,he,hr,hx⟩
 have hD: ∀(V:World) (u:Bool) (a':Option Addr) (j d x:Nat) (a2:Option Addr) (c2:Nat),Raw V a' j d x->j<900000000->x % Nat.gcd n m=0->Raw V a2 (len (Nat.gcd n m)) c2 (Nat.gcd n m)->Calls prog 83 #[.agg #[.bool u,.slice a' j d],.agg #[.bool false,.slice a2 (len (Nat.gcd n m)) c2]] V λe w'=> ∃a3 c3 a4 c4,e= .returned (.tuple #[.agg #[.bool (decide (bf u (x/Nat.gcd n m)<0)),.slice a3 (len (x/Nat.gcd n m)) c3],.agg #[.bool false,.slice a4 0 c4],.bool true])/\Raw w' a3 (len (x/Nat.gcd n m)) c3 (x/Nat.gcd n m)/\Fr V.heap.size a3/\Ext V w':=by
  intro V u a' j d x a2 c2 hR hj hx0 Bp;have:=vO V u false a' a2 j d _ c2 x _ hR Bp hg0 hj ae;obtain ⟨q1,q2⟩:=rX (s:=u) (t:=false) (n:=x) hg0 (Or.inr hx0);rw [q1,q2,hx0,Bool.bne_false]at this;refine this.mono ?_;rintro e w' ⟨a3,c3,a4,c4,he,hr3,hf3,hr4,J4,hx⟩;rw [bL]at he hr3;exact ⟨a3,c3,a4,c4,he,hr3,hf3,hx⟩
 have hx1:n % Nat.gcd n m=0:=Nat.mod_eq_zero_of_dvd (Nat.gcd_dvd_left n m);have hx2:m % Nat.gcd n m=0:=Nat.mod_eq_zero_of_dvd (Nat.gcd_dvd_right n m);obtain ⟨m1,m2,m3⟩:=Fw s t n m hm;obtain ⟨q,hq⟩: ∃q:Rat,q=mkRat (bf (s !=t) n) m:=⟨_,rfl⟩;rw [<-hq]at m1 m2 m3⊢;have XJ:=vP t _ Z9
 have Cf: ∀(V:World) (a2:Option Addr) (c2:Nat),Ext w V->Raw V a2 (len (Nat.gcd n m)) c2 (Nat.gcd n m)->Calls prog 83 #[.agg #[.bool t,.slice b k' c'],.agg #[.bool false,.slice a2 (len (Nat.gcd n m)) c2]] V λe w'=> ∃a3 c3 a4 c4,e= .returned (.tuple #[.agg #[.bool t,.slice a3 (len (m/Nat.gcd n m)) c3],.agg #[.bool false,.slice a4 0 c4],.bool true])/\Raw w' a3 (len (m/Nat.gcd n m)) c3 (m/Nat.gcd n m)/\Fr V.heap.size a3/\Ext V w':=by
  intro V a2 c2 hV Bp;have:=hD V t b k' c' m a2 c2 (h'.ext hV) b2 hx2 Bp;rw [XJ]at this;exact this
 have UC: ∀(V:World) (a2:Option Addr) (c2:Nat),Ext w V->Raw V a2 (len (Nat.gcd n m)) c2 (Nat.gcd n m)->Calls prog 83 #[.agg #[.bool s,.slice a k c],.agg #[.bool false,.slice a2 (len (Nat.gcd n m)) c2]] V λe w'=> ∃a3 c3 a4 c4,e= .returned (.tuple #[.agg #[.bool (decide (bf s (n/Nat.gcd n m)<0)),.slice a3 (len (n/Nat.gcd n m)) c3],.agg #[.bool false,.slice a4 0 c4],.bool true])/\Raw w' a3 (len (n/Nat.gcd n m)) c3 (n/Nat.gcd n m)/\Fr V.heap.size a3/\Ext V w':=λV a2 c2 hV Bp=>hD V s a k c n a2 c2 (h.ext hV) b1 hx1 Bp;have BS:=dt (Nat.div_le_self n (Nat.gcd n m));have hl2:=dt (Nat.div_le_self m (Nat.gcd n m));generalize n/Nat.gcd n m=N at*;generalize m/Nat.gcd n m=D at*;generalize Nat.gcd n m=G at*;obtain ⟨sN,UD⟩: ∃sN,sN=decide (bf s N<0):=⟨_,rfl⟩;rw [<-UD]at UC;have HG:=af hG;have LN:=af UC;have yf:=af Cf
 have M1:=af m1;have M2:=af m2;have M3:=af m3;have HSN:=af UD;have HQ:=af hq
 clear hG hD UC Cf hx1 hx2 m1 m2 m3 hq XJ UD;subst ht;go_enter func37,ntmps37
 go_wp2_with fail
 obtain ⟨W,hW,x0,Z0,A0,A1,A2⟩:=et w 61 [.bool s,.slice a k c] 61 [.bool true,.slice b k' c'] 63 [.bool false,.slice none 0 0,.slice none 0 0];rw [<-hW];clear hW;obtain ⟨z0,z1,z2,⟨aD,aF,aM,aN⟩,⟨aJ,aK,aR,aS⟩,aZ,a_,bW,bA,bB,cf⟩:=bb3 aC aC aA A0 A1 A2 ah;refine (HS.o _ x0).mono ?_;rintro e w1 ⟨rfl,x1⟩;obtain ⟨z0,z1,z2,⟨aD,aF,aM,aN⟩,⟨aJ,aK,aR,aS⟩,aZ,a_,bW,bA,bB,cf⟩:=bb3 aC aC aA A0 A1 A2 x1;go_wp2_with fail
 refine (HN.o _ (x0.trans x1)).mono ?_;rintro e w2 ⟨a1,c1,rfl,r1,f1,x2⟩;obtain ⟨z0,z1,z2,⟨aD,aF,aM,aN⟩,⟨aJ,aK,aR,aS⟩,aZ,a_,bW,bA,bB,cf⟩:=bb3 aC aC aA A0 A1 A2 (x1.trans x2);go_upto_region 4 with fail
 obtain ⟨W2,hW2,y2,ZZ2,P0⟩:=bS w2 61 [.bool true,.slice a1 (len m) c1];rw [<-hW2];clear hW2;have g2:Ext W W2:=(x1.trans x2).trans y2;obtain ⟨z0,z1,z2,⟨aD,aF,aM,aN⟩,⟨aJ,aK,aR,aS⟩,aZ,a_,bW,bA,bB,cf⟩:=bb3 aC aC aA A0 A1 A2 g2;obtain ⟨IB,LM,Q0,Q5⟩:=aC P0 ah;obtain ⟨w3,hw3⟩: ∃w3:World,w3=W2:=⟨_,rfl⟩;have g3:Ext W w3:=by rw [hw3];exact g2
 rw [<-hw3]at aD aF aM aN aJ aK aR aS aZ a_ bW bA bB cf IB LM Q0 Q5⊢;clear hw3;go_wp2_with fail
 refine (HG.o _ (x0.trans g3)).mono ?_;rintro e w4 ⟨a4,c4,rfl,r4,x4⟩;go_upto_region 7 with fail
 obtain ⟨W4,Nq,y4,ZZ4,P1⟩:=bS w4 61 [.bool false,.slice a4 (len G) c4];rw [<-Nq];clear Nq;have g4:Ext W W4:=(g3.trans x4).trans y4;obtain ⟨z0,z1,z2,⟨aD,aF,aM,aN⟩,⟨aJ,aK,aR,aS⟩,aZ,a_,bW,bA,bB,cf⟩:=bb3 aC aC aA A0 A1 A2 g4;have UE:=aC P1 ah;go_wp2_with fail
 refine (LN.o _ _ _ (x0.trans g4) (r4.ext y4)).mono ?_;rintro e w5 ⟨a5,c5,a6,c6,rfl,r5,f5,x5⟩;go_upto_region 8 with fail
 obtain ⟨W5,t_,y5,ZZ5,P2,P3⟩:=dV w5 61 [.bool sN,.slice a5 (len N) c5] 61 [.bool false,.slice a6 0 c6];rw [<-t_];clear t_;have g5:Ext W W5:=(g4.trans x5).trans y5;obtain ⟨z0,z1,z2,⟨aD,aF,aM,aN⟩,⟨aJ,aK,aR,aS⟩,aZ,a_,bW,bA,bB,cf⟩:=bb3 aC aC aA A0 A1 A2 g5;have UE:=aC P1 (x5.trans y5);have IC:=aC P2 ah;go_wp2_with fail
 refine (yf.o _ _ _ (x0.trans g5) (((r4.ext y4).ext x5).ext y5)).mono ?_;rintro e w6 ⟨a7,c7,a8,c8,rfl,r7,f7,x6⟩;go_upto_region 9 with fail
 obtain ⟨W6,SR,y6,ZZ6,P4,P5⟩:=dV w6 61 [.bool true,.slice a7 (len D) c7] 61 [.bool false,.slice a8 0 c8];rw [<-SR];clear SR;have g6:Ext W W6:=(g5.trans x6).trans y6;have v6:Ext W5 W6:=x6.trans y6;obtain ⟨z0,z1,z2,⟨aD,aF,aM,aN⟩,⟨aJ,aK,aR,aS⟩,aZ,a_,bW,bA,bB,cf⟩:=bb3 aC aC aA A0 A1 A2 g6;have IC:=aC P2 v6;have Oh:=aC P4 ah;have zz:=Z0.o;obtain ⟨sM,hsM⟩: ∃sM,sM=decide (bf (s !=true) N<0):=⟨_,rfl⟩;have e5:Ext w5 W6:=y5.trans v6
 have XK: ∀V,Ext W6 V->Calls prog 84 #[.agg #[.bool sN,.slice a5 (len N) c5]] V λe w'=> ∃a9 c9,e= .returned (.agg #[.bool sM,.slice a9 (len N) c9])/\Raw w' a9 (len N) c9 N/\Fr V.heap.size a9/\Ext V w':=by
  intro V hV;refine (Dm V sN a5 _ c5 N ((r5.ext e5).ext hV)).mono ?_;rintro e w' ⟨a9,c9,he,hr,hf,hx⟩
  have e1: -bf sN N=bf (s !=true) N:=by
   have e2:=df (bf s N);rw [bL,<-HSN.o]at e2;rw [e2,<-uI];cases s<;>rfl
  rw [e1]at he hr;rw [bL]at he hr;rw [<-hsM]at he;exact ⟨a9,c9,he,hr,hf,hx⟩
 have hN2: ∀V,Ext W6 V->Calls prog 84 #[.agg #[.bool true,.slice a7 (len D) c7]] V λe w'=> ∃a9 c9,e= .returned (.agg #[.bool false,.slice a9 (len D) c9])/\Raw w' a9 (len D) c9 D/\Fr V.heap.size a9/\Ext V w':=by
  intro V hV;refine (Dm V true a7 _ c7 D ((r7.ext y6).ext hV)).mono ?_;rintro e w' ⟨a9,c9,he,hr,hf,hx⟩;rw [<-uI,Bool.not_true]at he hr;rw [bL]at he hr;rw [vP false D Z9]at he;exact ⟨a9,c9,he,hr,hf,hx⟩
 have J5:=af XK;have Nr:=af hN2;have ID:=af hsM
 clear XK hN2 hsM;have s45:W.heap.size<=w5.heap.size:=(g4.trans x5).size;have s46:W.heap.size<=w6.heap.size:=(g5.trans x6).size;have s56:w5.heap.size<w6.heap.size:=Nat.lt_of_lt_of_le P2.lt x6.size;go_upto_region 10 with fail
 have gC:True:=trivial;go_cut [] (λwx=> ∃a9 c9 Fc c10,aY wx w5.heap.size 61 [.bool sM,.slice a9 (len N) c9]/\aY wx w6.heap.size 61 [.bool false,.slice Fc (len D) c10]/\Raw wx a9 (len N) c9 N/\Raw wx Fc (len D) c10 D/\Fr W.heap.size a9/\Fr W.heap.size Fc/\Ext W wx)
 case first=>
  go_region_with (first
   |(go_at_call 84;have _t:=gC;refine (J5.o _ (by exact ah.drew)).mono ?_;rintro e w7 ⟨a9,c9,rfl,r9,f9,x7⟩;clear gC _t;have IC:=aC P2 (v6.drew.trans x7);have Oh:=aC P4 (ah.drew.trans x7))
   |(go_at_call 84;refine (Nr.o _ (by exact ah.drew.trans x7)).mono ?_;rintro e w8 ⟨Fc,c10,rfl,zE,f10,x8⟩;have IC:=aC P2 (v6.drew.trans (x7.trans x8));have Oh:=aC P4 (ah.drew.trans (x7.trans x8))))
  all_goals go_wp2_with fail
  all_goals go_meet
  all_goals have g8:Ext W6 w8:=ah.drew.trans (x7.trans x8)
  all_goals have z9:Fr (w6.heap.size+1) a9:=f9.mono P4.lt
  all_goals have Qj:Fr (w6.heap.size+1) Fc:=f10.mono (Nat.le_trans P4.lt x7.size)
  all_goals exact ⟨a9,c9,Fc,c10,(((P2.ext v6).ext g8).lY _ _).iE _ _ ae,((P4.ext g8).iE _ _ ae).lY _ _,(((((r9.ext x8).setCell _ _ (z9.ne (by simp only;omega))).setCell _ _ (z9.ne (by simp only;omega))).setCell _ _ (z9.ne (by simp only;omega))).setCell _ _ (z9.ne (by simp only;omega))),((((zE.setCell _ _ (Qj.ne (by simp only;omega))).setCell _ _ (Qj.ne (by simp only;omega))).setCell _ _ (Qj.ne (by simp only;omega))).setCell _ _ (Qj.ne (by simp only;omega))),z9.mono ae,Qj.mono ae,(((((g6.trans g8).setCell s45 _).setCell s45 _).setCell s46 _).setCell s46 _)⟩
 case rest=>
  obtain ⟨a9,c9,Fc,c10,E7,E10,r9,zE,f9,f10,g9⟩:=hcut;clear IC Oh;obtain ⟨w9,rfl⟩: ∃w9:World,w9=wc:=⟨_,rfl⟩;obtain ⟨z0,z1,z2,⟨aD,aF,aM,aN⟩,⟨aJ,aK,aR,aS⟩,aZ,a_,bW,bA,bB,cf⟩:=bb3 aC aC aA A0 A1 A2 g9;have IC:=aC E7 ah;have Oh:=aC E10 ah;go_wp2_with fail
  have rN:Raw w9 a9 (len q.num.natAbs) c9 q.num.natAbs:=by rw [M1.o];exact r9
  have rD:Raw w9 Fc (len q.den) c10 q.den:=by rw [M2.o];exact zE
  have fin:bD q W (.returned (.agg #[.bool (decide (q.num<0)),.slice a9 (len q.num.natAbs) c9,.slice Fc (len q.den) c10])) w9:=⟨_,_,_,_,rfl,rN,f9,rD,f10,g9⟩;rw [M1.o,M2.o,M3.o,<-ID.o]at fin;exact bodyPost_ret (by simp [results,results37,go_sem,aZ,a_,bW]) rfl (bD.bH fin x0 (Touch.three _ ae ae _ _ _))
theorem yL (w:World) (s t:Bool) (a b:Option Addr) (k c k' c' n m:Nat) (h:Raw w a k c n) (h':Raw w b k' c' m) (b1:k<900000000) (b2:k'<900000000):
 Calls prog 37 #[.agg #[.bool s,.slice a k c],.agg #[.bool t,.slice b k' c']] w (bD (mkRat (bf (s !=t) n) m) w):=by
 by_cases h0:m=0
 .exact Dt w s t a b k c k' c' n m h h' h0
 .cases t with
  |true=>exact Du w s true a b k c k' c' n m h h' rfl ae b1 b2
  |false=>
   by_cases h1:m=1
   .subst h1;exact Fx w s a b k c k' c' n h h'
   .exact Bt w s false a b k c k' c' n m h h' rfl ae b1 b2 h1
