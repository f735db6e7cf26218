/- Texts of the proof. -/
import Derived.Test.YtkpngkdgphojlaaGreatRows
import Derived.Test.YtkpngkdgphojlaaGreatChecked
import Derived.Test.YtkpngkdgphojlaaGreatCc24
set_option linter.all false
namespace Go.Proofs.YtkpngkdgphojlaaGreat
open Go.RowKit
theorem Ei (w:World):Raw (w.alloc (Obj.cells #[] 185)) (some ⟨w.heap.size,0,none⟩) 0 0 0:=
 ⟨[],rfl,rfl,⟨Nat.zero_le _,by omega,Nat.zero_le _,(fun e=>by cases e),Small.nil,fun _ h=>by cases h⟩⟩
set_option maxHeartbeats 400000 in
theorem xu (w:World):Calls Tryz.prog 73 #[] w (eC 0 w):=by
 have r0:=Ei (w.alloc (.cells #[.bool false,.slice (some ⟨w.heap.size+1,0,none⟩) 0 0,.slice (some ⟨w.heap.size+1+1,0,none⟩) 1 1] 119));have r1:=mV ((w.alloc (.cells #[.bool false,.slice (some ⟨w.heap.size+1,0,none⟩) 0 0,.slice (some ⟨w.heap.size+1+1,0,none⟩) 1 1] 119)).alloc (Obj.cells #[] 185));have e0:Ext w (w.alloc (.cells #[.bool false,.slice (some ⟨w.heap.size+1,0,none⟩) 0 0,.slice (some ⟨w.heap.size+1+1,0,none⟩) 1 1] 119)):=(Ext.refl _).alloc _;rw [show(w.alloc (.cells #[.bool false,.slice (some ⟨w.heap.size+1,0,none⟩) 0 0,.slice (some ⟨w.heap.size+1+1,0,none⟩) 1 1] 119)).heap.size=w.heap.size+1 from by simp]at r0;rw [show((w.alloc (.cells #[.bool false,.slice (some ⟨w.heap.size+1,0,none⟩) 0 0,.slice (some ⟨w.heap.size+1+1,0,none⟩) 1 1] 119)).alloc (Obj.cells #[] 185)).heap.size=w.heap.size+1+1 from by simp]at r1;go_enter Tryz.func73,Tryz.ntmps73
 go_wp2_with fail
 exact bodyPost_ret (v:= .agg #[.bool false,.slice (some ⟨w.heap.size+1,0,none⟩) 0 0,.slice (some ⟨w.heap.size+1+1,0,none⟩) 1 1]) (by simp [results,Tryz.results73,go_sem]) rfl
  ⟨_,0,_,1,rfl,r0.ext ((Ext.refl _).alloc _),Fr.some (by omega),r1,Fr.some (by omega),(e0.alloc _).alloc _⟩
theorem qI (t:Bool) (m:Nat) (hm:0<m):decide (dw t m<0)=t:=by
 rw [pK];simp [hm]
theorem v_ {l:List Nat} (hs:Small l) (hl:l.length=len (val l)):l= [1]↔val l=1:=by
 constructor
 ·intro h;rw [h];rfl
 ·intro h
  have h1:l.length=1:=by rw [hl,h];exact nJ
  exact val_inj hs (Small.one (by decide)) (by rw [h1];rfl) (by rw [h];rfl)
theorem zJ (s t:Bool) (n m:Nat) (hm:0<m):(mkRat (dw (s !=t) n) m).num.natAbs=n/Nat.gcd n m∧(mkRat (dw (s !=t) n) m).den=m/Nat.gcd n m∧decide ((mkRat (dw (s !=t) n) m).num<0)=decide (dw (s !=t) (n/Nat.gcd n m)<0):=by
 have h1:=kz (dw (s !=t) n) m hm;have h2:=sO (dw (s !=t) n) m hm;have h3:=uZ (dw (s !=t) n) m hm;rw [cP,Nat.gcd_comm]at h1 h2;refine ⟨h1,h2,?_⟩;rw [h3,pK,pK];congr 2
 have hg:0<Nat.gcd n m:=Nat.gcd_pos_of_pos_right _ hm;by_cases h:0<n
 ·have:0<n/Nat.gcd n m:=Nat.div_pos (Nat.le_of_dvd h (Nat.gcd_dvd_left n m)) hg
  simp [h,this]
 ·have:n=0:=by omega
  subst this;simp
set_option maxHeartbeats 400000 in
theorem xv (w:World) (s t:Bool) (a b:Option Addr) (k c k' c' n m:Nat) (_h:Raw w a k c n) (h':Raw w b k' c' m) (hm:m=0):
 Calls Tryz.prog 117 #[.agg #[.bool s,.slice a k c],.agg #[.bool t,.slice b k' c']] w (eC (mkRat (dw (s !=t) n) m) w):=by
 rw [hm,Rat.mkRat_zero]
 have hS: ∀V,Ext w V→Calls Tryz.prog 128 #[.agg #[.bool t,.slice b k' c']] V fun e w'=>e= .returned (.int .i64 0)∧Ext V w':=by
  intro V hV;have:=sI V t b k' c' m (h'.ext hV);rw [hm,zB]at this;exact this
 have HS:=ae hS;clear hS
 go_enter Tryz.func117,Tryz.ntmps117
 go_wp2_with fail
 obtain ⟨W,hW,x0,Z0,A0,A1,A2⟩:=ik w 117 [.bool s,.slice a k c] 117 [.bool t,.slice b k' c'] 119 [.bool false,.slice none 0 0,.slice none 0 0];rw [←hW];clear hW;obtain ⟨bY,bZ,cD,cE⟩:=aO A0 (Ext.refl _);have z0:=(A0.ext (Ext.refl _)).lt;obtain ⟨cS,cT,dy,dz⟩:=aO A1 (Ext.refl _);have z1:=(A1.ext (Ext.refl _)).lt;obtain ⟨cV,cW,iE,dJ,dK,jm⟩:=ig A2 (Ext.refl _);have z2:=(A2.ext (Ext.refl _)).lt;refine (HS.out _ x0).mono ?_;rintro e w1 ⟨rfl,x1⟩;obtain ⟨bY,bZ,cD,cE⟩:=aO A0 x1;have z0:=(A0.ext x1).lt;obtain ⟨cS,cT,dy,dz⟩:=aO A1 x1;have z1:=(A1.ext x1).lt;obtain ⟨cV,cW,iE,dJ,dK,jm⟩:=ig A2 x1;have z2:=(A2.ext x1).lt;go_wp2_with fail
 refine (xu _).mono ?_;intro e w2 hN;obtain ⟨a2,c2,a3,c3,rfl,r2,f2,r3,f3,x2⟩:=id hN;obtain ⟨bY,bZ,cD,cE⟩:=aO A0 (x1.trans x2);have z0:=(A0.ext (x1.trans x2)).lt;obtain ⟨cS,cT,dy,dz⟩:=aO A1 (x1.trans x2);have z1:=(A1.ext (x1.trans x2)).lt;obtain ⟨cV,cW,iE,dJ,dK,jm⟩:=ig A2 (x1.trans x2);have z2:=(A2.ext (x1.trans x2)).lt;go_wp2_with fail
 exact bodyPost_ret (by simp [results,Tryz.results117,go_sem, *]) rfl (eC.cI (hN.base x1) x0 (Touch.three _ (by omega) (by rw [Z0.out];omega) _ _ _))
set_option maxHeartbeats 1000000 in
set_option maxRecDepth 100000 in
theorem zK (w:World) (s:Bool) (a b:Option Addr) (k c k' c' n:Nat) (h:Raw w a k c n) (h':Raw w b k' c' 1):
 Calls Tryz.prog 117 #[.agg #[.bool s,.slice a k c],.agg #[.bool false,.slice b k' c']] w (eC (mkRat (dw (s !=false) n) 1) w):=by
 obtain ⟨m,RG⟩: ∃m:Nat,m=1:=⟨_,rfl⟩;have hm:0<m:=by omega
 rw [←RG]at h';obtain ⟨t,ht⟩: ∃t:Bool,t=false:=⟨_,rfl⟩;rw [←ht];have hS: ∀V,Ext w V→Calls Tryz.prog 128 #[.agg #[.bool t,.slice b k' c']] V fun e w'=>e= .returned (.int .i64 (dw t m).sign)∧Ext V w':=fun V hV=>sI V t b k' c' m (h'.ext hV)
 have JS:((dw t m).sign==0)=false:=by
  rw [beq_eq_false_iff_ne];cases t with
  |true=>rw [jS,Int.sign_eq_neg_one_of_neg (by omega)];decide
  |false=>rw [iM,Int.sign_eq_one_of_pos (by omega)];decide
 generalize (dw t m).sign=sg at hS JS
 have hN: ∀V,Ext w V→Calls Tryz.prog 170 #[.agg #[.bool t,.slice b k' c']] V fun e w'=> ∃a1 c1,e= .returned (.agg #[.bool t,.slice a1 (len m) c1])∧Raw w' a1 (len m) c1 m∧Fr V.heap.size a1∧Ext V w':=by
  intro V hV;refine (pN V t b k' c' m (h'.ext hV)).mono ?_;rintro e w' ⟨a1,c1,he,hr,hf,hx⟩;rw [cP]at he hr;rw [qI t m hm]at he;exact ⟨a1,c1,he,hr,hf,hx⟩
 have HS:=ae hS;have HN:=ae hN;clear hS hN
 have VR: ∀V,Ext w V→Calls Tryz.prog 170 #[.agg #[.bool s,.slice a k c]] V (bX (dw s n) V):=fun V hV=>pN V s a k c n (h.ext hV);obtain ⟨Z,hZ⟩: ∃Z,Z=dw s n:=⟨_,rfl⟩;rw [←hZ]at VR;obtain ⟨q,hq⟩: ∃q:Rat,q=mkRat (dw (s !=t) n) 1:=⟨_,rfl⟩
 have uw:q.num=Z∧q.den=1:=by
  have e:q=((dw s n:Int):Rat):=by rw [hq,ht,Bool.bne_false,Rat.mkRat_one]
  rw [e,hZ];exact ⟨rfl,rfl⟩
 rw [←hq];have HNN:=ae VR;have HQ:=ae uw;have VS:=ae RG
 clear VR uw hq hZ RG;subst ht;go_enter Tryz.func117,Tryz.ntmps117
 go_wp2_with fail
 obtain ⟨W,hW,x0,Z0,A0,A1,A2⟩:=ik w 117 [.bool s,.slice a k c] 117 [.bool false,.slice b k' c'] 119 [.bool false,.slice none 0 0,.slice none 0 0];rw [←hW];clear hW;obtain ⟨bY,bZ,cD,cE⟩:=aO A0 (Ext.refl _);have z0:=(A0.ext (Ext.refl _)).lt;obtain ⟨cS,cT,dy,dz⟩:=aO A1 (Ext.refl _);have z1:=(A1.ext (Ext.refl _)).lt;obtain ⟨cV,cW,iE,dJ,dK,jm⟩:=ig A2 (Ext.refl _);have z2:=(A2.ext (Ext.refl _)).lt;refine (HS.out _ x0).mono ?_;rintro e w1 ⟨rfl,x1⟩;obtain ⟨bY,bZ,cD,cE⟩:=aO A0 x1;have z0:=(A0.ext x1).lt;obtain ⟨cS,cT,dy,dz⟩:=aO A1 x1;have z1:=(A1.ext x1).lt;obtain ⟨cV,cW,iE,dJ,dK,jm⟩:=ig A2 x1;have z2:=(A2.ext x1).lt;go_wp2_with fail
 refine (HN.out _ (x0.trans x1)).mono ?_;rintro e w2 ⟨a1,c1,rfl,r1,f1,x2⟩;obtain ⟨bY,bZ,cD,cE⟩:=aO A0 (x1.trans x2);have z0:=(A0.ext (x1.trans x2)).lt;obtain ⟨cS,cT,dy,dz⟩:=aO A1 (x1.trans x2);have z1:=(A1.ext (x1.trans x2)).lt;obtain ⟨cV,cW,iE,dJ,dK,jm⟩:=ig A2 (x1.trans x2);have z2:=(A2.ext (x1.trans x2)).lt;go_upto_region 4 with fail
 obtain ⟨W2,hW2,y2,Zg,P0⟩:=aB w2 117 [.bool false,.slice a1 (len m) c1];rw [←hW2];clear hW2;have g2:Ext W W2:=(x1.trans x2).trans y2;obtain ⟨bY,bZ,cD,cE⟩:=aO A0 g2;have z0:=(A0.ext g2).lt;obtain ⟨cS,cT,dy,dz⟩:=aO A1 g2;have z1:=(A1.ext g2).lt;obtain ⟨cV,cW,iE,dJ,dK,jm⟩:=ig A2 g2;have z2:=(A2.ext g2).lt;obtain ⟨BM,BN,Hn,Ho⟩:=aO P0 (Ext.refl _);go_wp2_with fail
 have o1:=mV W2;have y3:Ext W2 (W2.alloc (Obj.cells #[.int .u32 1] 185)):=(Ext.refl _).alloc _;obtain ⟨l,hl,hv,hA⟩:=(r1.ext y2).ext y3;obtain ⟨l',hl',hv',hA'⟩:=o1;have Ns:=zD _ _ _ _ _ l l' hA hA';have RH:l'= [1]:=val_inj hA'.small (Small.one (by decide)) (by rw [hl'];rfl) (by rw [hv'];rfl);have el:l= [1]:=(v_ hA.small (by rw [hl,hv])).2 (by rw [hv,VS.out]);rw [decide_eq_true (show l=l' by rw [el,RH]),hl,hl']at Ns;clear hA hA' hl hl' hv hv' el RH;refine Ns.mono ?_;rintro e w3 ⟨rfl,IM⟩;clear Ns;have g3:Ext W w3:=(g2.trans y3).trans IM.ext;have v3:Ext W2 w3:=y3.trans IM.ext;obtain ⟨bY,bZ,cD,cE⟩:=aO A0 g3;have z0:=(A0.ext g3).lt;obtain ⟨cS,cT,dy,dz⟩:=aO A1 g3;have z1:=(A1.ext g3).lt;obtain ⟨cV,cW,iE,dJ,dK,jm⟩:=ig A2 g3;have z2:=(A2.ext g3).lt;obtain ⟨BM,BN,Hn,Ho⟩:=aO P0 v3;go_wp2_with fail
 go_region_held3 (fun w'=>w'.cell? ⟨w.heap.size,0,none⟩=some (.bool s)∧w'.cell? ⟨w.heap.size,1,none⟩=some (.slice a k c)∧w'.cell? ⟨w2.heap.size,0,none⟩=some (.bool false)∧w'.cell? ⟨w2.heap.size,1,none⟩=some (.slice a1 (len m) c1)) (first|exact ⟨bY,bZ,BM,BN⟩|(simp [go_sem,bY,bZ,BM,BN])) (first
  |(go_at_call 170;refine (HNN.out _ (by exact x0.trans g3.drew)).mono ?_;rintro e w4 ⟨a4,c4,rfl,r4,f4,x4⟩;obtain ⟨bY,bZ,cD,cE⟩:=aO A0 (g3.drew.trans x4);have z0:=(A0.ext (g3.drew.trans x4)).lt;obtain ⟨cS,cT,dy,dz⟩:=aO A1 (g3.drew.trans x4);have z1:=(A1.ext (g3.drew.trans x4)).lt;obtain ⟨cV,cW,iE,dJ,dK,jm⟩:=ig A2 (g3.drew.trans x4);have z2:=(A2.ext (g3.drew.trans x4)).lt;obtain ⟨BM,BN,Hn,Ho⟩:=aO P0 (v3.drew.trans x4)))
 go_wp2_with fail
 have zz:=Z0.out;have rN:Raw w4 a4 (len q.num.natAbs) c4 q.num.natAbs:=by rw [HQ.out.1];exact r4
 have rD:Raw w4 a1 (len q.den) c1 q.den:=by rw [HQ.out.2,←VS.out];exact (r1.ext y2).ext (v3.drew.trans x4)
 have fin:eC q W (.returned (.agg #[.bool (decide (q.num<0)),.slice a4 (len q.num.natAbs) c4,.slice a1 (len q.den) c1])) w4:=⟨_,_,_,_,rfl,rN,f4.mono g3.drew.size,rD,f1.mono x1.size,g3.drew.trans x4⟩;rw [HQ.out.1,HQ.out.2,←VS.out]at fin;exact bodyPost_ret (by simp [results,Tryz.results117,go_sem,cV,cW,iE]) rfl (eC.cI fin x0 (Touch.three _ (by omega) (by omega) _ _ _))
set_option maxHeartbeats 2000000 in
set_option maxRecDepth 100000 in
theorem vh (w:World) (s t:Bool) (a b:Option Addr) (k c k' c' n m:Nat) (h:Raw w a k c n) (h':Raw w b k' c' m) (ht:t=false) (hm:0<m) (b1:k<900000000) (b2:k'<900000000) (RG:m≠1):
 Calls Tryz.prog 117 #[.agg #[.bool s,.slice a k c],.agg #[.bool t,.slice b k' c']] w (eC (mkRat (dw (s !=t) n) m) w):=by
 have hS: ∀V,Ext w V→Calls Tryz.prog 128 #[.agg #[.bool t,.slice b k' c']] V fun e w'=>e= .returned (.int .i64 (dw t m).sign)∧Ext V w':=fun V hV=>sI V t b k' c' m (h'.ext hV)
 have JS:((dw t m).sign==0)=false:=by
  rw [beq_eq_false_iff_ne];cases t with
  |true=>rw [jS,Int.sign_eq_neg_one_of_neg (by omega)];decide
  |false=>rw [iM,Int.sign_eq_one_of_pos (by omega)];decide
 generalize (dw t m).sign=sg at hS JS
 have hN: ∀V,Ext w V→Calls Tryz.prog 170 #[.agg #[.bool t,.slice b k' c']] V fun e w'=> ∃a1 c1,e= .returned (.agg #[.bool t,.slice a1 (len m) c1])∧Raw w' a1 (len m) c1 m∧Fr V.heap.size a1∧Ext V w':=by
  intro V hV;refine (pN V t b k' c' m (h'.ext hV)).mono ?_;rintro e w' ⟨a1,c1,he,hr,hf,hx⟩;rw [cP]at he hr;rw [qI t m hm]at he;exact ⟨a1,c1,he,hr,hf,hx⟩
 have HS:=ae hS;have HN:=ae hN;clear hS hN
 have N7:=h.eH;have xV:=h'.eH;have hg0:0<Nat.gcd n m:=Nat.gcd_pos_of_pos_right _ hm;have DM:len (Nat.gcd n m)≤len m:=eA (Nat.le_of_dvd hm (Nat.gcd_dvd_right n m));have Tt:0<m/Nat.gcd n m:=Nat.div_pos (Nat.le_of_dvd hm (Nat.gcd_dvd_right n m)) hg0
 have hG: ∀V,Ext w V→Calls Tryz.prog 172 #[.agg #[.bool s,.slice a k c],.agg #[.bool t,.slice b k' c']] V fun e w'=> ∃a1 c1,e= .returned (.agg #[.bool false,.slice a1 (len (Nat.gcd n m)) c1])∧Raw w' a1 (len (Nat.gcd n m)) c1 (Nat.gcd n m)∧Ext V w':=by
  intro V hV;refine (Hm V s t a b k c k' c' n m (h.ext hV) (h'.ext hV) (by omega) (by omega)).mono ?_;rintro e w' ⟨a1,c1,he,hr,hf,hx⟩;rw [Int.natAbs_natCast]at he hr;rw [decide_eq_false (by omega)]at he;exact ⟨a1,c1,he,hr,hx⟩
 have hD: ∀(V:World) (u:Bool) (a':Option Addr) (j d x:Nat) (a2:Option Addr) (c2:Nat),Raw V a' j d x→j<900000000→x % Nat.gcd n m=0→Raw V a2 (len (Nat.gcd n m)) c2 (Nat.gcd n m)→Calls Tryz.prog 173 #[.agg #[.bool u,.slice a' j d],.agg #[.bool false,.slice a2 (len (Nat.gcd n m)) c2]] V fun e w'=> ∃a3 c3 a4 c4,e= .returned (.tuple #[.agg #[.bool (decide (dw u (x/Nat.gcd n m)<0)),.slice a3 (len (x/Nat.gcd n m)) c3],.agg #[.bool false,.slice a4 0 c4],.bool true])∧Raw w' a3 (len (x/Nat.gcd n m)) c3 (x/Nat.gcd n m)∧Fr V.heap.size a3∧Ext V w':=by
  intro V u a' j d x a2 c2 hR hj hx0 vd;have:=vZ V u false a' a2 j d _ c2 x _ hR vd hg0 hj (by omega);obtain ⟨q1,q2⟩:=qF (s:=u) (t:=false) (n:=x) hg0 (Or.inr hx0);rw [q1,q2,hx0,Bool.bne_false]at this;refine this.mono ?_;rintro e w' ⟨a3,c3,a4,c4,he,hr3,hf3,hr4,OG,hx⟩;rw [cP]at he hr3;exact ⟨a3,c3,a4,c4,he,hr3,hf3,hx⟩
 have hx1:n % Nat.gcd n m=0:=Nat.mod_eq_zero_of_dvd (Nat.gcd_dvd_left n m);have hx2:m % Nat.gcd n m=0:=Nat.mod_eq_zero_of_dvd (Nat.gcd_dvd_right n m);obtain ⟨m1,m2,m3⟩:=zJ s t n m hm;obtain ⟨q,hq⟩: ∃q:Rat,q=mkRat (dw (s !=t) n) m:=⟨_,rfl⟩;rw [←hq]at m1 m2 m3⊢;have RI:=qI t _ Tt
 have RJ: ∀(V:World) (a2:Option Addr) (c2:Nat),Ext w V→Raw V a2 (len (Nat.gcd n m)) c2 (Nat.gcd n m)→Calls Tryz.prog 173 #[.agg #[.bool t,.slice b k' c'],.agg #[.bool false,.slice a2 (len (Nat.gcd n m)) c2]] V fun e w'=> ∃a3 c3 a4 c4,e= .returned (.tuple #[.agg #[.bool t,.slice a3 (len (m/Nat.gcd n m)) c3],.agg #[.bool false,.slice a4 0 c4],.bool true])∧Raw w' a3 (len (m/Nat.gcd n m)) c3 (m/Nat.gcd n m)∧Fr V.heap.size a3∧Ext V w':=by
  intro V a2 c2 hV vd;have:=hD V t b k' c' m a2 c2 (h'.ext hV) b2 hx2 vd;rw [RI]at this;exact this
 have Nt: ∀(V:World) (a2:Option Addr) (c2:Nat),Ext w V→Raw V a2 (len (Nat.gcd n m)) c2 (Nat.gcd n m)→Calls Tryz.prog 173 #[.agg #[.bool s,.slice a k c],.agg #[.bool false,.slice a2 (len (Nat.gcd n m)) c2]] V fun e w'=> ∃a3 c3 a4 c4,e= .returned (.tuple #[.agg #[.bool (decide (dw s (n/Nat.gcd n m)<0)),.slice a3 (len (n/Nat.gcd n m)) c3],.agg #[.bool false,.slice a4 0 c4],.bool true])∧Raw w' a3 (len (n/Nat.gcd n m)) c3 (n/Nat.gcd n m)∧Fr V.heap.size a3∧Ext V w':=fun V a2 c2 hV vd=>hD V s a k c n a2 c2 (h.ext hV) b1 hx1 vd;have KV:=eA (Nat.div_le_self n (Nat.gcd n m));have hl2:=eA (Nat.div_le_self m (Nat.gcd n m));generalize n/Nat.gcd n m=N at*;generalize m/Nat.gcd n m=D at*;generalize Nat.gcd n m=G at*;obtain ⟨sN,Nu⟩: ∃sN,sN=decide (dw s N<0):=⟨_,rfl⟩;rw [←Nu]at Nt;have HG:=ae hG;have VT:=ae Nt;have VU:=ae RJ
 have M1:=ae m1;have M2:=ae m2;have M3:=ae m3;have VV:=ae Nu;have HQ:=ae hq
 clear hG hD Nt RJ hx1 hx2 m1 m2 m3 hq RI Nu;subst ht;go_enter Tryz.func117,Tryz.ntmps117
 go_wp2_with fail
 obtain ⟨W,hW,x0,Z0,A0,A1,A2⟩:=ik w 117 [.bool s,.slice a k c] 117 [.bool false,.slice b k' c'] 119 [.bool false,.slice none 0 0,.slice none 0 0];rw [←hW];clear hW;obtain ⟨bY,bZ,cD,cE⟩:=aO A0 (Ext.refl _);have z0:=(A0.ext (Ext.refl _)).lt;obtain ⟨cS,cT,dy,dz⟩:=aO A1 (Ext.refl _);have z1:=(A1.ext (Ext.refl _)).lt;obtain ⟨cV,cW,iE,dJ,dK,jm⟩:=ig A2 (Ext.refl _);have z2:=(A2.ext (Ext.refl _)).lt;refine (HS.out _ x0).mono ?_;rintro e w1 ⟨rfl,x1⟩;obtain ⟨bY,bZ,cD,cE⟩:=aO A0 x1;have z0:=(A0.ext x1).lt;obtain ⟨cS,cT,dy,dz⟩:=aO A1 x1;have z1:=(A1.ext x1).lt;obtain ⟨cV,cW,iE,dJ,dK,jm⟩:=ig A2 x1;have z2:=(A2.ext x1).lt;go_wp2_with fail
 refine (HN.out _ (x0.trans x1)).mono ?_;rintro e w2 ⟨a1,c1,rfl,r1,f1,x2⟩;obtain ⟨bY,bZ,cD,cE⟩:=aO A0 (x1.trans x2);have z0:=(A0.ext (x1.trans x2)).lt;obtain ⟨cS,cT,dy,dz⟩:=aO A1 (x1.trans x2);have z1:=(A1.ext (x1.trans x2)).lt;obtain ⟨cV,cW,iE,dJ,dK,jm⟩:=ig A2 (x1.trans x2);have z2:=(A2.ext (x1.trans x2)).lt;go_upto_region 4 with fail
 obtain ⟨W2,hW2,y2,Zg,P0⟩:=aB w2 117 [.bool false,.slice a1 (len m) c1];rw [←hW2];clear hW2;have g2:Ext W W2:=(x1.trans x2).trans y2;obtain ⟨bY,bZ,cD,cE⟩:=aO A0 g2;have z0:=(A0.ext g2).lt;obtain ⟨cS,cT,dy,dz⟩:=aO A1 g2;have z1:=(A1.ext g2).lt;obtain ⟨cV,cW,iE,dJ,dK,jm⟩:=ig A2 g2;have z2:=(A2.ext g2).lt;obtain ⟨BM,BN,Hn,Ho⟩:=aO P0 (Ext.refl _);go_wp2_with fail
 have o1:=mV W2;have y3:Ext W2 (W2.alloc (Obj.cells #[.int .u32 1] 185)):=(Ext.refl _).alloc _;obtain ⟨l,hl,hv,hA⟩:=(r1.ext y2).ext y3;obtain ⟨l',hl',hv',hA'⟩:=o1;have Ns:=zD _ _ _ _ _ l l' hA hA';have RH:l'= [1]:=val_inj hA'.small (Small.one (by decide)) (by rw [hl'];rfl) (by rw [hv'];rfl)
 have el: ¬l=l':=by
  intro h5;rw [RH]at h5;have:=(v_ hA.small (by rw [hl,hv])).1 h5;rw [hv]at this;exact RG this
 rw [decide_eq_false el,hl,hl']at Ns;clear hA hA' hl hl' hv hv' el RH;refine Ns.mono ?_;rintro e w3 ⟨rfl,IM⟩;clear Ns;have g3:Ext W w3:=(g2.trans y3).trans IM.ext;obtain ⟨bY,bZ,cD,cE⟩:=aO A0 g3;have z0:=(A0.ext g3).lt;obtain ⟨cS,cT,dy,dz⟩:=aO A1 g3;have z1:=(A1.ext g3).lt;obtain ⟨cV,cW,iE,dJ,dK,jm⟩:=ig A2 g3;have z2:=(A2.ext g3).lt;go_wp2_with fail
 refine (HG.out _ (x0.trans g3)).mono ?_;rintro e w4 ⟨a4,c4,rfl,r4,x4⟩;go_upto_region 7 with fail
 obtain ⟨W4,K6,y4,ZZ4,P1⟩:=aB w4 117 [.bool false,.slice a4 (len G) c4];rw [←K6];clear K6;have g4:Ext W W4:=(g3.trans x4).trans y4;obtain ⟨bY,bZ,cD,cE⟩:=aO A0 g4;have z0:=(A0.ext g4).lt;obtain ⟨cS,cT,dy,dz⟩:=aO A1 g4;have z1:=(A1.ext g4).lt;obtain ⟨cV,cW,iE,dJ,dK,jm⟩:=ig A2 g4;have z2:=(A2.ext g4).lt;obtain ⟨Nv,Nw,Nx,Ny⟩:=aO P1 (Ext.refl _);go_wp2_with fail
 refine (VT.out _ _ _ (x0.trans g4) (r4.ext y4)).mono ?_;rintro e w5 ⟨a5,c5,a6,c6,rfl,r5,f5,x5⟩;go_upto_region 8 with fail
 obtain ⟨W5,E8,y5,ZZ5,P2,P3⟩:=fP w5 117 [.bool sN,.slice a5 (len N) c5] 117 [.bool false,.slice a6 0 c6];rw [←E8];clear E8;have g5:Ext W W5:=(g4.trans x5).trans y5;obtain ⟨bY,bZ,cD,cE⟩:=aO A0 g5;have z0:=(A0.ext g5).lt;obtain ⟨cS,cT,dy,dz⟩:=aO A1 g5;have z1:=(A1.ext g5).lt;obtain ⟨cV,cW,iE,dJ,dK,jm⟩:=ig A2 g5;have z2:=(A2.ext g5).lt;obtain ⟨Nv,Nw,Nx,Ny⟩:=aO P1 (x5.trans y5);obtain ⟨BO,BP,BQ,BR⟩:=aO P2 (Ext.refl _);go_wp2_with fail
 refine (VU.out _ _ _ (x0.trans g5) (((r4.ext y4).ext x5).ext y5)).mono ?_;rintro e w6 ⟨a7,c7,a8,c8,rfl,r7,f7,x6⟩;go_upto_region 9 with fail
 obtain ⟨W6,K0,y6,ZZ6,P4,P5⟩:=fP w6 117 [.bool false,.slice a7 (len D) c7] 117 [.bool false,.slice a8 0 c8];rw [←K0];clear K0;have g6:Ext W W6:=(g5.trans x6).trans y6;have v6:Ext W5 W6:=x6.trans y6;obtain ⟨bY,bZ,cD,cE⟩:=aO A0 g6;have z0:=(A0.ext g6).lt;obtain ⟨cS,cT,dy,dz⟩:=aO A1 g6;have z1:=(A1.ext g6).lt;obtain ⟨cV,cW,iE,dJ,dK,jm⟩:=ig A2 g6;have z2:=(A2.ext g6).lt;obtain ⟨BO,BP,BQ,BR⟩:=aO P2 v6;obtain ⟨Hp,Hq,Hr,Hs⟩:=aO P4 (Ext.refl _);have zz:=Z0.out;go_wp2_with fail
 have rN:Raw W6 a5 (len q.num.natAbs) c5 q.num.natAbs:=by rw [M1.out];exact (r5.ext y5).ext v6
 have rD:Raw W6 a7 (len q.den) c7 q.den:=by rw [M2.out];exact r7.ext y6
 have fin:eC q W (.returned (.agg #[.bool (decide (q.num<0)),.slice a5 (len q.num.natAbs) c5,.slice a7 (len q.den) c7])) W6:=⟨_,_,_,_,rfl,rN,f5.mono g4.size,rD,f7.mono g5.size,g6⟩;rw [M1.out,M2.out,M3.out,Bool.bne_false,←VV.out]at fin;exact bodyPost_ret (by simp [results,Tryz.results117,go_sem,cV,cW,iE]) rfl (eC.cI fin x0 (Touch.three _ (by omega) (by omega) _ _ _))
set_option maxHeartbeats 2000000 in
set_option maxRecDepth 100000 in
theorem xA (w:World) (s t:Bool) (a b:Option Addr) (k c k' c' n m:Nat) (h:Raw w a k c n) (h':Raw w b k' c' m) (ht:t=true) (hm:0<m) (b1:k<900000000) (b2:k'<900000000):
 Calls Tryz.prog 117 #[.agg #[.bool s,.slice a k c],.agg #[.bool t,.slice b k' c']] w (eC (mkRat (dw (s !=t) n) m) w):=by
 have hS: ∀V,Ext w V→Calls Tryz.prog 128 #[.agg #[.bool t,.slice b k' c']] V fun e w'=>e= .returned (.int .i64 (dw t m).sign)∧Ext V w':=fun V hV=>sI V t b k' c' m (h'.ext hV)
 have JS:((dw t m).sign==0)=false:=by
  rw [beq_eq_false_iff_ne];cases t with
  |true=>rw [jS,Int.sign_eq_neg_one_of_neg (by omega)];decide
  |false=>rw [iM,Int.sign_eq_one_of_pos (by omega)];decide
 generalize (dw t m).sign=sg at hS JS
 have hN: ∀V,Ext w V→Calls Tryz.prog 170 #[.agg #[.bool t,.slice b k' c']] V fun e w'=> ∃a1 c1,e= .returned (.agg #[.bool t,.slice a1 (len m) c1])∧Raw w' a1 (len m) c1 m∧Fr V.heap.size a1∧Ext V w':=by
  intro V hV;refine (pN V t b k' c' m (h'.ext hV)).mono ?_;rintro e w' ⟨a1,c1,he,hr,hf,hx⟩;rw [cP]at he hr;rw [qI t m hm]at he;exact ⟨a1,c1,he,hr,hf,hx⟩
 have HS:=ae hS;have HN:=ae hN;clear hS hN
 have N7:=h.eH;have xV:=h'.eH;have hg0:0<Nat.gcd n m:=Nat.gcd_pos_of_pos_right _ hm;have DM:len (Nat.gcd n m)≤len m:=eA (Nat.le_of_dvd hm (Nat.gcd_dvd_right n m));have Tt:0<m/Nat.gcd n m:=Nat.div_pos (Nat.le_of_dvd hm (Nat.gcd_dvd_right n m)) hg0
 have hG: ∀V,Ext w V→Calls Tryz.prog 172 #[.agg #[.bool s,.slice a k c],.agg #[.bool t,.slice b k' c']] V fun e w'=> ∃a1 c1,e= .returned (.agg #[.bool false,.slice a1 (len (Nat.gcd n m)) c1])∧Raw w' a1 (len (Nat.gcd n m)) c1 (Nat.gcd n m)∧Ext V w':=by
  intro V hV;refine (Hm V s t a b k c k' c' n m (h.ext hV) (h'.ext hV) (by omega) (by omega)).mono ?_;rintro e w' ⟨a1,c1,he,hr,hf,hx⟩;rw [Int.natAbs_natCast]at he hr;rw [decide_eq_false (by omega)]at he;exact ⟨a1,c1,he,hr,hx⟩
 have hD: ∀(V:World) (u:Bool) (a':Option Addr) (j d x:Nat) (a2:Option Addr) (c2:Nat),Raw V a' j d x→j<900000000→x % Nat.gcd n m=0→Raw V a2 (len (Nat.gcd n m)) c2 (Nat.gcd n m)→Calls Tryz.prog 173 #[.agg #[.bool u,.slice a' j d],.agg #[.bool false,.slice a2 (len (Nat.gcd n m)) c2]] V fun e w'=> ∃a3 c3 a4 c4,e= .returned (.tuple #[.agg #[.bool (decide (dw u (x/Nat.gcd n m)<0)),.slice a3 (len (x/Nat.gcd n m)) c3],.agg #[.bool false,.slice a4 0 c4],.bool true])∧Raw w' a3 (len (x/Nat.gcd n m)) c3 (x/Nat.gcd n m)∧Fr V.heap.size a3∧Ext V w':=by
  intro V u a' j d x a2 c2 hR hj hx0 vd;have:=vZ V u false a' a2 j d _ c2 x _ hR vd hg0 hj (by omega);obtain ⟨q1,q2⟩:=qF (s:=u) (t:=false) (n:=x) hg0 (Or.inr hx0);rw [q1,q2,hx0,Bool.bne_false]at this;refine this.mono ?_;rintro e w' ⟨a3,c3,a4,c4,he,hr3,hf3,hr4,OG,hx⟩;rw [cP]at he hr3;exact ⟨a3,c3,a4,c4,he,hr3,hf3,hx⟩
 have hx1:n % Nat.gcd n m=0:=Nat.mod_eq_zero_of_dvd (Nat.gcd_dvd_left n m);have hx2:m % Nat.gcd n m=0:=Nat.mod_eq_zero_of_dvd (Nat.gcd_dvd_right n m);obtain ⟨m1,m2,m3⟩:=zJ s t n m hm;obtain ⟨q,hq⟩: ∃q:Rat,q=mkRat (dw (s !=t) n) m:=⟨_,rfl⟩;rw [←hq]at m1 m2 m3⊢;have RI:=qI t _ Tt
 have RJ: ∀(V:World) (a2:Option Addr) (c2:Nat),Ext w V→Raw V a2 (len (Nat.gcd n m)) c2 (Nat.gcd n m)→Calls Tryz.prog 173 #[.agg #[.bool t,.slice b k' c'],.agg #[.bool false,.slice a2 (len (Nat.gcd n m)) c2]] V fun e w'=> ∃a3 c3 a4 c4,e= .returned (.tuple #[.agg #[.bool t,.slice a3 (len (m/Nat.gcd n m)) c3],.agg #[.bool false,.slice a4 0 c4],.bool true])∧Raw w' a3 (len (m/Nat.gcd n m)) c3 (m/Nat.gcd n m)∧Fr V.heap.size a3∧Ext V w':=by
  intro V a2 c2 hV vd;have:=hD V t b k' c' m a2 c2 (h'.ext hV) b2 hx2 vd;rw [RI]at this;exact this
 have Nt: ∀(V:World) (a2:Option Addr) (c2:Nat),Ext w V→Raw V a2 (len (Nat.gcd n m)) c2 (Nat.gcd n m)→Calls Tryz.prog 173 #[.agg #[.bool s,.slice a k c],.agg #[.bool false,.slice a2 (len (Nat.gcd n m)) c2]] V fun e w'=> ∃a3 c3 a4 c4,e= .returned (.tuple #[.agg #[.bool (decide (dw s (n/Nat.gcd n m)<0)),.slice a3 (len (n/Nat.gcd n m)) c3],.agg #[.bool false,.slice a4 0 c4],.bool true])∧Raw w' a3 (len (n/Nat.gcd n m)) c3 (n/Nat.gcd n m)∧Fr V.heap.size a3∧Ext V w':=fun V a2 c2 hV vd=>hD V s a k c n a2 c2 (h.ext hV) b1 hx1 vd;have KV:=eA (Nat.div_le_self n (Nat.gcd n m));have hl2:=eA (Nat.div_le_self m (Nat.gcd n m));generalize n/Nat.gcd n m=N at*;generalize m/Nat.gcd n m=D at*;generalize Nat.gcd n m=G at*;obtain ⟨sN,Nu⟩: ∃sN,sN=decide (dw s N<0):=⟨_,rfl⟩;rw [←Nu]at Nt;have HG:=ae hG;have VT:=ae Nt;have VU:=ae RJ
 have M1:=ae m1;have M2:=ae m2;have M3:=ae m3;have VV:=ae Nu;have HQ:=ae hq
 clear hG hD Nt RJ hx1 hx2 m1 m2 m3 hq RI Nu;subst ht;go_enter Tryz.func117,Tryz.ntmps117
 go_wp2_with fail
 obtain ⟨W,hW,x0,Z0,A0,A1,A2⟩:=ik w 117 [.bool s,.slice a k c] 117 [.bool true,.slice b k' c'] 119 [.bool false,.slice none 0 0,.slice none 0 0];rw [←hW];clear hW;obtain ⟨bY,bZ,cD,cE⟩:=aO A0 (Ext.refl _);have z0:=(A0.ext (Ext.refl _)).lt;obtain ⟨cS,cT,dy,dz⟩:=aO A1 (Ext.refl _);have z1:=(A1.ext (Ext.refl _)).lt;obtain ⟨cV,cW,iE,dJ,dK,jm⟩:=ig A2 (Ext.refl _);have z2:=(A2.ext (Ext.refl _)).lt;refine (HS.out _ x0).mono ?_;rintro e w1 ⟨rfl,x1⟩;obtain ⟨bY,bZ,cD,cE⟩:=aO A0 x1;have z0:=(A0.ext x1).lt;obtain ⟨cS,cT,dy,dz⟩:=aO A1 x1;have z1:=(A1.ext x1).lt;obtain ⟨cV,cW,iE,dJ,dK,jm⟩:=ig A2 x1;have z2:=(A2.ext x1).lt;go_wp2_with fail
 refine (HN.out _ (x0.trans x1)).mono ?_;rintro e w2 ⟨a1,c1,rfl,r1,f1,x2⟩;obtain ⟨bY,bZ,cD,cE⟩:=aO A0 (x1.trans x2);have z0:=(A0.ext (x1.trans x2)).lt;obtain ⟨cS,cT,dy,dz⟩:=aO A1 (x1.trans x2);have z1:=(A1.ext (x1.trans x2)).lt;obtain ⟨cV,cW,iE,dJ,dK,jm⟩:=ig A2 (x1.trans x2);have z2:=(A2.ext (x1.trans x2)).lt;go_upto_region 4 with fail
 obtain ⟨W2,hW2,y2,Zg,P0⟩:=aB w2 117 [.bool true,.slice a1 (len m) c1];rw [←hW2];clear hW2;have g2:Ext W W2:=(x1.trans x2).trans y2;obtain ⟨bY,bZ,cD,cE⟩:=aO A0 g2;have z0:=(A0.ext g2).lt;obtain ⟨cS,cT,dy,dz⟩:=aO A1 g2;have z1:=(A1.ext g2).lt;obtain ⟨cV,cW,iE,dJ,dK,jm⟩:=ig A2 g2;have z2:=(A2.ext g2).lt;obtain ⟨BM,BN,Hn,Ho⟩:=aO P0 (Ext.refl _);obtain ⟨w3,hw3⟩: ∃w3:World,w3=W2:=⟨_,rfl⟩;have g3:Ext W w3:=by rw [hw3];exact g2
 rw [←hw3]at bY bZ cD cE cS cT dy dz cV cW iE dJ dK jm BM BN Hn Ho⊢;clear hw3;go_wp2_with fail
 refine (HG.out _ (x0.trans g3)).mono ?_;rintro e w4 ⟨a4,c4,rfl,r4,x4⟩;go_upto_region 7 with fail
 obtain ⟨W4,K6,y4,ZZ4,P1⟩:=aB w4 117 [.bool false,.slice a4 (len G) c4];rw [←K6];clear K6;have g4:Ext W W4:=(g3.trans x4).trans y4;obtain ⟨bY,bZ,cD,cE⟩:=aO A0 g4;have z0:=(A0.ext g4).lt;obtain ⟨cS,cT,dy,dz⟩:=aO A1 g4;have z1:=(A1.ext g4).lt;obtain ⟨cV,cW,iE,dJ,dK,jm⟩:=ig A2 g4;have z2:=(A2.ext g4).lt;obtain ⟨Nv,Nw,Nx,Ny⟩:=aO P1 (Ext.refl _);go_wp2_with fail
 refine (VT.out _ _ _ (x0.trans g4) (r4.ext y4)).mono ?_;rintro e w5 ⟨a5,c5,a6,c6,rfl,r5,f5,x5⟩;go_upto_region 8 with fail
 obtain ⟨W5,E8,y5,ZZ5,P2,P3⟩:=fP w5 117 [.bool sN,.slice a5 (len N) c5] 117 [.bool false,.slice a6 0 c6];rw [←E8];clear E8;have g5:Ext W W5:=(g4.trans x5).trans y5;obtain ⟨bY,bZ,cD,cE⟩:=aO A0 g5;have z0:=(A0.ext g5).lt;obtain ⟨cS,cT,dy,dz⟩:=aO A1 g5;have z1:=(A1.ext g5).lt;obtain ⟨cV,cW,iE,dJ,dK,jm⟩:=ig A2 g5;have z2:=(A2.ext g5).lt;obtain ⟨Nv,Nw,Nx,Ny⟩:=aO P1 (x5.trans y5);obtain ⟨BO,BP,BQ,BR⟩:=aO P2 (Ext.refl _);go_wp2_with fail
 refine (VU.out _ _ _ (x0.trans g5) (((r4.ext y4).ext x5).ext y5)).mono ?_;rintro e w6 ⟨a7,c7,a8,c8,rfl,r7,f7,x6⟩;go_upto_region 9 with fail
 obtain ⟨W6,K0,y6,ZZ6,P4,P5⟩:=fP w6 117 [.bool true,.slice a7 (len D) c7] 117 [.bool false,.slice a8 0 c8];rw [←K0];clear K0;have g6:Ext W W6:=(g5.trans x6).trans y6;have v6:Ext W5 W6:=x6.trans y6;obtain ⟨bY,bZ,cD,cE⟩:=aO A0 g6;have z0:=(A0.ext g6).lt;obtain ⟨cS,cT,dy,dz⟩:=aO A1 g6;have z1:=(A1.ext g6).lt;obtain ⟨cV,cW,iE,dJ,dK,jm⟩:=ig A2 g6;have z2:=(A2.ext g6).lt;obtain ⟨BO,BP,BQ,BR⟩:=aO P2 v6;obtain ⟨Hp,Hq,Hr,Hs⟩:=aO P4 (Ext.refl _);have zz:=Z0.out;obtain ⟨sM,VX⟩: ∃sM,sM=decide (dw (s !=true) N<0):=⟨_,rfl⟩;have e5:Ext w5 W6:=y5.trans v6
 have Pa: ∀V,Ext W6 V→Calls Tryz.prog 174 #[.agg #[.bool sN,.slice a5 (len N) c5]] V fun e w'=> ∃a9 c9,e= .returned (.agg #[.bool sM,.slice a9 (len N) c9])∧Raw w' a9 (len N) c9 N∧Fr V.heap.size a9∧Ext V w':=by
  intro V hV;refine (BJ V sN a5 _ c5 N ((r5.ext e5).ext hV)).mono ?_;rintro e w' ⟨a9,c9,he,hr,hf,hx⟩
  have e1: -dw sN N=dw (s !=true) N:=by
   have e2:=jv (dw s N);rw [cP,←VV.out]at e2;rw [e2,←xm];cases s<;>rfl
  rw [e1]at he hr;rw [cP]at he hr;rw [←VX]at he;exact ⟨a9,c9,he,hr,hf,hx⟩
 have Zh: ∀V,Ext W6 V→Calls Tryz.prog 174 #[.agg #[.bool true,.slice a7 (len D) c7]] V fun e w'=> ∃a9 c9,e= .returned (.agg #[.bool false,.slice a9 (len D) c9])∧Raw w' a9 (len D) c9 D∧Fr V.heap.size a9∧Ext V w':=by
  intro V hV;refine (BJ V true a7 _ c7 D ((r7.ext y6).ext hV)).mono ?_;rintro e w' ⟨a9,c9,he,hr,hf,hx⟩;rw [←xm,Bool.not_true]at he hr;rw [cP]at he hr;rw [qI false D Tt]at he;exact ⟨a9,c9,he,hr,hf,hx⟩
 have FT:=ae Pa;have Cq:=ae Zh;have vU:=ae VX
 clear Pa Zh VX;have Zi:W.heap.size≤w5.heap.size:=(g4.trans x5).size;have Zj:W.heap.size≤w6.heap.size:=(g5.trans x6).size;have s56:w5.heap.size<w6.heap.size:=Nat.lt_of_lt_of_le P2.lt x6.size;go_upto_region 10 with fail
 have zH:True:=trivial;go_cut [] (fun wx=> ∃a9 c9 J8 c10,aG wx w5.heap.size 117 [.bool sM,.slice a9 (len N) c9]∧aG wx w6.heap.size 117 [.bool false,.slice J8 (len D) c10]∧Raw wx a9 (len N) c9 N∧Raw wx J8 (len D) c10 D∧Fr W.heap.size a9∧Fr W.heap.size J8∧Ext W wx)
 case first=>
  go_region_with (first
   |(go_at_call 174;have _t:=zH;refine (FT.out _ (by exact (Ext.refl _).drew)).mono ?_;rintro e w7 ⟨a9,c9,rfl,r9,f9,x7⟩;clear zH _t;obtain ⟨BO,BP,BQ,BR⟩:=aO P2 (v6.drew.trans x7);obtain ⟨Hp,Hq,Hr,Hs⟩:=aO P4 ((Ext.refl _).drew.trans x7))
   |(go_at_call 174;refine (Cq.out _ (by exact (Ext.refl _).drew.trans x7)).mono ?_;rintro e w8 ⟨J8,c10,rfl,VY,f10,x8⟩;obtain ⟨BO,BP,BQ,BR⟩:=aO P2 (v6.drew.trans (x7.trans x8));obtain ⟨Hp,Hq,Hr,Hs⟩:=aO P4 ((Ext.refl _).drew.trans (x7.trans x8))))
  all_goals go_wp2_with fail
  all_goals go_meet
  all_goals have g8:Ext W6 w8:=(Ext.refl _).drew.trans (x7.trans x8)
  all_goals have z9:Fr (w6.heap.size+1) a9:=f9.mono P4.lt
  all_goals have Nz:Fr (w6.heap.size+1) J8:=f10.mono (Nat.le_trans P4.lt x7.size)
  all_goals exact ⟨a9,c9,J8,c10,(((P2.ext v6).ext g8).zC _ _).iN _ _ (by omega),((P4.ext g8).iN _ _ (by omega)).zC _ _,(((((r9.ext x8).setCell _ _ (z9.ne (by simp only;omega))).setCell _ _ (z9.ne (by simp only;omega))).setCell _ _ (z9.ne (by simp only;omega))).setCell _ _ (z9.ne (by simp only;omega))),((((VY.setCell _ _ (Nz.ne (by simp only;omega))).setCell _ _ (Nz.ne (by simp only;omega))).setCell _ _ (Nz.ne (by simp only;omega))).setCell _ _ (Nz.ne (by simp only;omega))),z9.mono (by omega),Nz.mono (by omega),(((((g6.trans g8).setCell Zi _).setCell Zi _).setCell Zj _).setCell Zj _)⟩
 case rest=>
  obtain ⟨a9,c9,J8,c10,E7,E10,r9,VY,f9,f10,g9⟩:=hcut;clear BO BP BQ BR Hp Hq Hr Hs;obtain ⟨w9,rfl⟩: ∃w9:World,w9=wc:=⟨_,rfl⟩;obtain ⟨bY,bZ,cD,cE⟩:=aO A0 g9;have z0:=(A0.ext g9).lt;obtain ⟨cS,cT,dy,dz⟩:=aO A1 g9;have z1:=(A1.ext g9).lt;obtain ⟨cV,cW,iE,dJ,dK,jm⟩:=ig A2 g9;have z2:=(A2.ext g9).lt;obtain ⟨BO,BP,BQ,BR⟩:=aO E7 (Ext.refl _);obtain ⟨Hp,Hq,Hr,Hs⟩:=aO E10 (Ext.refl _);go_wp2_with fail
  have rN:Raw w9 a9 (len q.num.natAbs) c9 q.num.natAbs:=by rw [M1.out];exact r9
  have rD:Raw w9 J8 (len q.den) c10 q.den:=by rw [M2.out];exact VY
  have fin:eC q W (.returned (.agg #[.bool (decide (q.num<0)),.slice a9 (len q.num.natAbs) c9,.slice J8 (len q.den) c10])) w9:=⟨_,_,_,_,rfl,rN,f9,rD,f10,g9⟩;rw [M1.out,M2.out,M3.out,←vU.out]at fin;exact bodyPost_ret (by simp [results,Tryz.results117,go_sem,cV,cW,iE]) rfl (eC.cI fin x0 (Touch.three _ (by omega) (by omega) _ _ _))
theorem J9 (w:World) (s t:Bool) (a b:Option Addr) (k c k' c' n m:Nat) (h:Raw w a k c n) (h':Raw w b k' c' m) (b1:k<900000000) (b2:k'<900000000):
 Calls Tryz.prog 117 #[.agg #[.bool s,.slice a k c],.agg #[.bool t,.slice b k' c']] w (eC (mkRat (dw (s !=t) n) m) w):=by
 by_cases h0:m=0
 ·exact xv w s t a b k c k' c' n m h h' h0
 ·cases t with
  |true=>exact xA w s true a b k c k' c' n m h h' rfl (by omega) b1 b2
  |false=>
   by_cases h1:m=1
   ·subst h1;exact zK w s a b k c k' c' n h h'
   ·exact vh w s false a b k c k' c' n m h h' rfl (by omega) b1 b2 h1
set_option maxHeartbeats 400000 in
theorem rX (w:World) (x:Int) (s1 s2 s:Bool) (n1 n2 n m:Nat) (h1: ∀V,Calls Tryz.prog 118 #[.int .i64 x] V (oO s1 n1 V)) (h2: ∀V,Calls Tryz.prog 118 #[.int .i64 1] V (oO s2 n2 V))
 (h3: ∀V a c b d,Raw V a (len n1) c n1→Raw V b (len n2) d n2→Calls Tryz.prog 117 #[.agg #[.bool s1,.slice a (len n1) c],.agg #[.bool s2,.slice b (len n2) d]] V (mj s n m V)):
 Calls Tryz.prog 67 #[.int .i64 x] w (mj s n m w):=by
 have H1:=ae h1;have H2:=ae h2;have H3:=ae h3;clear h1 h2 h3
 go_enter Tryz.func67,Tryz.ntmps67
 go_wp2_with fail
 obtain ⟨W,hW,x0,Z0,A0⟩:=aB w 119 [.bool false,.slice none 0 0,.slice none 0 0];rw [←hW];clear hW;obtain ⟨bY,bZ,J_,cD,cE,NA⟩:=ig A0 (Ext.refl _);have z0:=(A0.ext (Ext.refl _)).lt;refine (H1.out _).mono ?_;rintro e w1 ⟨a1,c1,rfl,r1,f1,x1⟩;obtain ⟨bY,bZ,J_,cD,cE,NA⟩:=ig A0 x1;have z0:=(A0.ext x1).lt;go_wp2_with fail
 refine (H2.out _).mono ?_;rintro e w2 ⟨a2,c2,rfl,r2,f2,x2⟩;obtain ⟨bY,bZ,J_,cD,cE,NA⟩:=ig A0 (x1.trans x2);have z0:=(A0.ext (x1.trans x2)).lt;go_wp2_with fail
 refine (H3.out _ _ _ _ _ (r1.ext x2) r2).mono ?_;intro e w3 hN;obtain ⟨a3,c3,a4,c4,rfl,r3,f3,r4,f4,x3⟩:=id hN;obtain ⟨bY,bZ,J_,cD,cE,NA⟩:=ig A0 ((x1.trans x2).trans x3);have z0:=(A0.ext ((x1.trans x2).trans x3)).lt;go_wp2_with fail
 exact bodyPost_ret (by simp [results,Tryz.results67,go_sem,bY,bZ,J_]) rfl (mj.cI (hN.base (x1.trans x2)) x0 (Touch.three _ (by omega) (by rw [Z0.out];omega) _ _ _))
theorem BU (w:World) (x:Int) (h1: -9223372036854775808≤x) (h2:x≤9223372036854775807):
 Calls Tryz.prog 67 #[.int .i64 x] w (eC (x:Rat) w):=
 rX w x _ _ _ _ _ _ _ (fun V=>oG V x h1 h2) (fun V=>oG V 1 (by decide) (by decide))
  (fun V a c b d hR hR'=>by
    have:=J9 V (decide (x<0)) (decide ((1:Int)<0)) a b _ c _ d _ _ hR hR' (by have:=ud h1 h2;omega) (by decide);rw [show decide ((1:Int)<0)=false from rfl,Bool.bne_false,jv,show(Int.natAbs 1)=1 from rfl,Rat.mkRat_one]at this;exact this)
theorem Raw.alloc' {w:World} {a:Option Addr} {k c n:Nat} (h:Raw w a k c n) (o:Obj):Raw (w.alloc o) a k c n:=h.ext ((Ext.refl _).alloc _)
def Off (r:fj) (row:Option Nat):Prop:=(0<r.k→ ∀x,r.a=some x→some x.block≠row)∧(0<r.j→ ∀x,r.b=some x→some x.block≠row)
structure mW (w wr:World) (v:Value) (rs:List fj) (qs:List Rat) (L:Nat):Prop where
 len:qs.length=rs.length
 own:wr.ownsRow w.heap.size 119 3 v rs.length (dF rs)
 num: ∀k (hk:k<rs.length),kA wr rs[k] (qs[k]'(by omega)) L
 off: ∀k (hk:k<rs.length),Off rs[k] v.ownBlock
 ext:Ext w wr
theorem mW.start {w wr:World} (h:Ext w wr) (L:Nat):mW w wr (.slice none 0 0) [] [] L:=
 ⟨rfl,⟨rfl,.inl ⟨rfl,rfl⟩⟩,fun _k hk=>absurd hk (Nat.not_lt_zero _),fun _k hk=>absurd hk (Nat.not_lt_zero _),h⟩
open Go.ChangeShapes Go.WideShapes Go.ChangeAt
theorem Tryz.own:ownKnob Tryz.prog.godebug=none:=by kernel_rfl
theorem Ej (n:Nat) (hn:n≤128) (w:World):(Instr.makeSlice 22 (.int .i64 (n:Int)) (.int .i64 (n:Int))).run Tryz.prog w= .ok (.slice (some ⟨w.heap.size,0,none⟩) n n) (w.alloc (.cells (List.replicate n (Value.int .i64 0)).toArray 3)):=by
 obtain ⟨i,h2,h4,h5,h6⟩:=info_parts Tryz.info_int;have hrun:=run_make (P:=Tryz.prog) w 22 3 i _ Tryz.underlying22 h2 h4 .i64 .i64 n n (by omega) (Int.le_refl _) (by rw [h6];omega) (by omega);simp only [Int.toNat_natCast,h5,Nat.mul_one,show(Value.int IntKind.i64 0).cells= #[Value.int IntKind.i64 0]from rfl,nS]at hrun;exact hrun
theorem Ek (n:Nat) (hn:n≤128) (w:World):(Instr.makeSlice 122 (.int .i64 (n:Int)) (.int .i64 (n:Int))).run Tryz.prog w= .ok (.slice (some ⟨w.heap.size,0,none⟩) n n) (w.alloc (.cells (fh n).toArray 119)):=by
 obtain ⟨i,h2,h4,h5,h6⟩:=info_parts Tryz.info_rat;have hrun:=run_make (P:=Tryz.prog) w 122 119 i _ Tryz.underlying122 h2 h4 .i64 .i64 n n (by omega) (Int.le_refl _) (by rw [h6];omega) (by omega);have h3:(Value.agg kS.toArray).cells=kS.toArray:=rfl;rw [h3,h5,Int.toNat_natCast,rU]at hrun;exact hrun
open Go.Deep
def Ld (w:World) (a:Option Addr) (k c:Nat):Prop:=k≤c∧c≤9223372036854775807∧(k≤1000→ ∃n,Raw w a k c n)
structure Ht (w:World) (a:Option Addr) (c:Nat) (rs:List fj):Prop where
 le:rs.length≤c
 cap:c≤9223372036854775807
 KB:a=none→c=0
 cell: ∀i (h:i<rs.length),∃b o,a=some ⟨b,o,none⟩∧w.cell? ⟨b,o+i*3,none⟩=some (.bool rs[i].s)∧w.cell? ⟨b,o+i*3+1,none⟩=some (.slice rs[i].a rs[i].k rs[i].c)∧w.cell? ⟨b,o+i*3+2,none⟩=some (.slice rs[i].b rs[i].j rs[i].d)
 num: ∀i (h:i<rs.length),Ld w rs[i].a rs[i].k rs[i].c∧Ld w rs[i].b rs[i].j rs[i].d
theorem Ht.at {w:World} {a:Option Addr} {c:Nat} {rs:List fj} (h:Ht w a c rs) (h0:0<rs.length): ∃b o,a=some ⟨b,o,none⟩:=by
 obtain ⟨b,o,ha,_⟩:=h.cell 0 h0;exact ⟨b,o,ha⟩
theorem pO {w:World} {base base':Nat} {e:TypeId} {s:Nat} {v:Value} {n:Nat} {xs:List Value} (h:w.ownsRow base e s v n xs) (hb:base'≤base):w.ownsRow base' e s v n xs:=by
 obtain ⟨h1,h2⟩:=h;refine ⟨h1,?_⟩;rcases h2 with h2|⟨g,cap,cur,hv,hb',hg,hr⟩
 ·exact .inl h2
 ·exact .inr ⟨g,cap,cur,hv,Nat.le_trans hb hb',hg,hr⟩
theorem mW.base {w w4 wr:World} {v:Value} {rs:List fj} {qs:List Rat} {L:Nat} (h:mW w4 wr v rs qs L) (hx:Ext w w4):mW w wr v rs qs L:=
 ⟨h.len,pO h.own hx.size,h.num,h.off,hx.trans h.ext⟩
theorem mW.mono {w wr:World} {v:Value} {rs:List fj} {qs:List Rat} {L L':Nat} (h:mW w wr v rs qs L) (hl:L≤L'):mW w wr v rs qs L':=
 ⟨h.len,h.own,fun k hk=>(h.num k hk).mono hl,h.off,h.ext⟩
theorem sR.mono {rs:List fj} {L L':Nat} (h:sR rs L) (hl:L≤L'):sR rs L':=fun k hk=>by have:=h k hk;omega
theorem uA.src {w:World} {a:Option Addr} {c:Nat} {rs:List fj} {qs:List Rat} {L:Nat} (h:uA w a c rs qs L) (h0:0<rs.length): ∃ad,a=some ad∧ ∀j u,(dF rs)[j]?=some u→w.cell? (ad.add j)=some u:=by
 obtain ⟨b,o,rfl⟩:=h.at h0;refine ⟨_,rfl,fun j u hu=> ?_⟩;have hj:j<(dF rs).length:=(List.getElem?_eq_some_iff.1 hu).1;rw [lU]at hj;have hi:j/3<rs.length:=by omega
 have hk:j % 3<3:=by omega
 have hg:=xn rs (j/3) (j % 3) hi hk;rw [show j/3*3+j % 3=j by omega,hu]at hg;obtain ⟨b',o',e',c0,c1,c2⟩:=h.cell (j/3) hi;cases e'
 rw [show(Addr.add ⟨b,o,none⟩ j)=⟨b,o+j,none⟩from by unfold Addr.add;split<;>simp_all];rcases (show j % 3=0∨j % 3=1∨j % 3=2 by omega)with e|e|e
 ·rw [e]at hg;rw [show o+j=o+j/3*3 by omega,c0];simpa [fj.cells]using hg.symm
 ·rw [e]at hg;rw [show o+j=o+j/3*3+1 by omega,c1];simpa [fj.cells]using hg.symm
 ·rw [e]at hg;rw [show o+j=o+j/3*3+2 by omega,c2];simpa [fj.cells]using hg.symm
open Go
open Go.Maps Go.ChangeMaps Go.MapKept
def BV (W:World) (n B BB i:Nat) (w:World):Prop:=
 ∃ux:List fj,ux.length=i∧i≤n∧aG w B 119 (dF ux++fh (n-i))∧(∀k (hk:k<ux.length),iF w ux[k] 0 BB)∧Ext W w∧BB≤w.heap.size
theorem RL (A:List Value) (m:Nat) (x y z:Value):(((A++fh (m+1)).set A.length x).set (A.length+1) y).set (A.length+2) z=(A++ [x,y,z])++fh m:=by
 have e:fh (m+1)= .bool false:: .slice none 0 0:: .slice none 0 0::fh m:=rfl;rw [e];generalize fh m=Z;rw [List.set_append_right _ _ (by omega),Nat.sub_self,List.set_cons_zero,List.set_append_right _ _ (by omega),Nat.add_sub_cancel_left,List.set_cons_succ,List.set_cons_zero,List.set_append_right _ _ (by omega),Nat.add_sub_cancel_left,List.set_cons_succ,List.set_cons_succ,List.set_cons_zero];simp
theorem vk (l:List fj) (r:fj):dF (l++ [r])=dF l++r.cells:=by simp [dF]
theorem BW {w:World} {b m x:Nat} {T:TypeId} {A:List Value} (h:aG w b T (A++fh (m+1))) (hA:A.length=x*3):
 w.cell? ⟨b,x*3,none⟩=some (.bool false)∧w.cell? ⟨b,x*3+1,none⟩=some (.slice none 0 0)∧w.cell? ⟨b,x*3+2,none⟩=some (.slice none 0 0)∧w.frozen? ⟨b,x*3,none⟩=false∧w.frozen? ⟨b,x*3+1,none⟩=false∧w.frozen? ⟨b,x*3+2,none⟩=false:=by
 have e:fh (m+1)= .bool false:: .slice none 0 0:: .slice none 0 0::fh m:=rfl;rw [e]at h;refine ⟨?_,?_,?_,h.frozen _,h.frozen _,h.frozen _⟩
 ·rw [h.cell,List.getElem?_append_right (by omega),hA,Nat.sub_self];rfl
 ·rw [h.cell,List.getElem?_append_right (by omega),hA,Nat.add_sub_cancel_left];rfl
 ·rw [h.cell,List.getElem?_append_right (by omega),hA,Nat.add_sub_cancel_left];rfl
set_option maxHeartbeats 1000000 in
set_option maxRecDepth 100000 in
theorem El (V:World) (n:Nat) (hn:n≤128):
 Calls Tryz.prog 182 #[i64 (n:Int)] V fun e w'=> ∃ux:List fj,ux.length=n∧e= .returned (.slice (some ⟨V.heap.size,0,none⟩) n n)∧aG w' V.heap.size 119 (dF ux)∧(∀k (hk:k<ux.length),iF w' ux[k] 0 (V.heap.size+1))∧Ext V w':=by
 have NB:=Ek n hn;have HN:=ae hn;have HZ:Hid (∀U,Calls Tryz.prog 73 #[] U (eC 0 U)):=ae xu;clear hn;go_enter Tryz.func182,Tryz.ntmps182
 go_upto_block 0 with fail
 obtain ⟨W0,hW,x0,Z0,A0⟩:=aB V 119 (fh n);rw [show V.alloc (.cells (fh n).toArray 119)=W0 from hW.symm];obtain ⟨B,hB⟩: ∃B,B=V.heap.size:=⟨_,rfl⟩;rw [←hB]at A0⊢;have hsz:W0.heap.size=B+1:=by rw [hW,hB];simp
 have HS:Hid (BV V n B (B+1) 0 W0):=⟨[],rfl,Nat.zero_le _,by simpa [dF]using A0,fun k hk=>absurd hk (Nat.not_lt_zero _),x0,by omega⟩;have RM:Hid (V.heap.size≤B):=by show _≤_;omega
 have HVe:=ae hB;clear hW x0 Z0 A0 hB hsz NB;go_wp2_with fail
 go_loopw [4] (fun ii wr=> ∃i:Nat,i≤n∧BV V n B (B+1) i wr∧ii= .int .i64 (i:Int)) (fun ii _=>n-(intOf ii).toNat)
 case atStart=>exact ⟨0,Nat.zero_le _,HS.out,rfl⟩
 case round=>
  obtain ⟨i,hi,hz,rfl⟩:=hrel;clear HS;obtain ⟨ux,hpl,-,hA,Ka,hx,VZ⟩:=hz;by_cases hlt:i<n
  ·have b1:(i:Int)<(n:Int):=by omega
   have b0:(0:Int)≤(i:Int):=by omega
   obtain ⟨m,hm⟩: ∃m,n-i=m+1:=⟨n-i-1,by omega⟩;have Tq:n-(i+1)=m:=by omega
   rw [hm]at hA;have Zk:(dF ux).length=i*3:=by rw [lU,hpl]
   have q5:IntKind.i64.wrap ((i:Int)+1)=((i+1:Nat):Int):=by rw [IntKind.wrap_i64];have:=HN.out;omega
   have q6:wrap64 ((i:Int)+1)=((i+1:Nat):Int):=by unfold wrap64;have:=HN.out;omega
   have sq:=ae hpl;have Zl:=ae Zk;have HM':=ae Tq;have HA:=ae hA;have HC:=ae Ka;have HX:=ae hx;have kr:=ae VZ;have mG:=ae hlt
   clear hpl Zk hm Tq hA Ka hx VZ hi;go_wp2_with fail
   refine (HZ.out _).mono ?_;intro e w9 hN;obtain ⟨r,rfl,hr,x9⟩:=hN.Rh;clear hN;obtain ⟨p0,p1,p2,p3,p4,p5⟩:=BW (HA.out.ext x9) Zl.out;have HR:=ae hr;have Ai:=ae x9
   clear hr x9;go_wp2_with fail
   have sz9:=Ai.out.size;have szx:=HX.out.size;have sbb:=kr.out;have V0:=RM.out
   have C2:aG (((w9.setCell ⟨B,i*3,none⟩ (.bool r.s)).setCell ⟨B,i*3+1,none⟩ (.slice r.a r.k r.c)).setCell ⟨B,i*3+2,none⟩ (.slice r.b r.j r.d)) B 119 (dF (ux++ [r])++fh m):=by
    have h5:=(((HA.out.ext Ai.out).set (i*3) (.bool r.s)).set (i*3+1) (.slice r.a r.k r.c)).set (i*3+2) (.slice r.b r.j r.d);have h6:=RL (dF ux) m (.bool r.s) (.slice r.a r.k r.c) (.slice r.b r.j r.d);rw [Zl.out]at h6;rw [h6]at h5;rw [vk];exact h5
   have C6:=fun k hk=>((((HC.out k hk).ext Ai.out).setCell ⟨B,i*3,none⟩ (.bool r.s) (by simp only;omega)).setCell ⟨B,i*3+1,none⟩ (.slice r.a r.k r.c) (by simp only;omega)).setCell ⟨B,i*3+2,none⟩ (.slice r.b r.j r.d) (by simp only;omega);have C6':=(((HR.out.mono sbb).setCell ⟨B,i*3,none⟩ (.bool r.s) (by simp only;omega)).setCell ⟨B,i*3+1,none⟩ (.slice r.a r.k r.c) (by simp only;omega)).setCell ⟨B,i*3+2,none⟩ (.slice r.b r.j r.d) (by simp only;omega);have C7:=((((HX.out.trans Ai.out).setCell (p:=⟨B,i*3,none⟩) V0 (.bool r.s)).setCell (p:=⟨B,i*3+1,none⟩) V0 (.slice r.a r.k r.c)).setCell (p:=⟨B,i*3+2,none⟩) V0 (.slice r.b r.j r.d));have C8:B+1≤(((w9.setCell ⟨B,i*3,none⟩ (.bool r.s)).setCell ⟨B,i*3+1,none⟩ (.slice r.a r.k r.c)).setCell ⟨B,i*3+2,none⟩ (.slice r.b r.j r.d)).heap.size:=by simp [World.setCell];omega
   have HD:Hid (BV V n B (B+1) (i+1) (((w9.setCell ⟨B,i*3,none⟩ (.bool r.s)).setCell ⟨B,i*3+1,none⟩ (.slice r.a r.k r.c)).setCell ⟨B,i*3+2,none⟩ (.slice r.b r.j r.d))):=by
    refine ⟨ux++ [r],by simp [sq.out],by have:=mG.out;omega,by rw [HM'.out];exact C2,?_,C7,C8⟩;intro k hk;by_cases SJ:k<ux.length
    ·rw [List.getElem_append_left SJ];exact C6 k SJ
    ·have ee:k=ux.length:=by simp at hk;omega
     subst ee;rw [List.getElem_append_right (Nat.le_refl _)];simp only [Nat.sub_self,List.getElem_cons_zero];exact C6'
   exact ⟨⟨i+1,by omega,HD.out,by first|rfl|exact congrArg (Value.int IntKind.i64) q6⟩,by first|(show n-(((i+1:Nat):Int)).toNat<n-((i:Int)).toNat;omega)|exact Nat.lt_of_le_of_lt (Nat.le_of_eq (congrArg (fun z=>n-Int.toNat z) q6)) (by show n-(((i+1:Nat):Int)).toNat<n-((i:Int)).toNat;omega)⟩
  ·obtain rfl:i=n:=by omega
   rw [Nat.sub_self]at hA;have HA:=ae hA;have HC:=ae Ka;have HX:=ae hx;have sq:=ae hpl
   clear hA Ka hx VZ hpl;go_wp2_with fail
   go_ret;rw [←HVe.out];exact ⟨ux,sq.out,rfl,by simpa [fh]using HA.out,HC.out,HX.out⟩
end Go.Proofs.YtkpngkdgphojlaaGreat
