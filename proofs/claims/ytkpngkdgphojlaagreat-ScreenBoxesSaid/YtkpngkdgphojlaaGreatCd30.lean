/- Texts of the proof. -/
import Derived.Test.YtkpngkdgphojlaaGreatCd29
set_option linter.all false
set_option maxHeartbeats 2000000
set_option maxRecDepth 100000
namespace Go.Proofs.YtkpngkdgphojlaaGreat
open Go.Proofs.Tryz
open Go.RowKit
theorem Gf (w:World):Raw (w.alloc (Obj.cells #[] 185)) (some ⟨w.heap.size,0,none⟩) 0 0 0:=
 ⟨[],rfl,rfl,⟨Nat.zero_le _,by omega,Nat.zero_le _,(fun e=>by cases e),Small.nil,fun _ h=>by cases h⟩⟩
theorem zA (w:World):Calls prog 73 #[] w (bn 0 w):=by
 have r0:=Gf (w.alloc (.cells #[.bool false,.slice (some ⟨w.heap.size+1,0,none⟩) 0 0,.slice (some ⟨w.heap.size+1+1,0,none⟩) 1 1] 119));have r1:=nJ ((w.alloc (.cells #[.bool false,.slice (some ⟨w.heap.size+1,0,none⟩) 0 0,.slice (some ⟨w.heap.size+1+1,0,none⟩) 1 1] 119)).alloc (Obj.cells #[] 185));have e0:Ext w (w.alloc (.cells #[.bool false,.slice (some ⟨w.heap.size+1,0,none⟩) 0 0,.slice (some ⟨w.heap.size+1+1,0,none⟩) 1 1] 119)):=(Ext.refl _).alloc _;rw [show(w.alloc (.cells #[.bool false,.slice (some ⟨w.heap.size+1,0,none⟩) 0 0,.slice (some ⟨w.heap.size+1+1,0,none⟩) 1 1] 119)).heap.size=w.heap.size+1 from by simp]at r0;rw [show((w.alloc (.cells #[.bool false,.slice (some ⟨w.heap.size+1,0,none⟩) 0 0,.slice (some ⟨w.heap.size+1+1,0,none⟩) 1 1] 119)).alloc (Obj.cells #[] 185)).heap.size=w.heap.size+1+1 from by simp]at r1;go_enter func73,ntmps73
 go_wp2_with fail
 exact bodyPost_ret (v:= .agg #[.bool false,.slice (some ⟨w.heap.size+1,0,none⟩) 0 0,.slice (some ⟨w.heap.size+1+1,0,none⟩) 1 1]) (by simp [results,results73,go_sem]) rfl
  ⟨_,0,_,1,rfl,r0.ext ((Ext.refl _).alloc _),Fr.some (by omega),r1,Fr.some (by omega),(e0.alloc _).alloc _⟩
theorem rQ (t:Bool) (m:Nat) (hm:0<m):decide (bA t m<0)=t:=by
 rw [qi];simp [hm]
theorem ye {l:List Nat} (hs:Small l) (hl:l.length=len (val l)):l= [1]↔val l=1:=by
 constructor
 ·intro h;rw [h];rfl
 ·intro h
  have h1:l.length=1:=by rw [hl,h];exact qP
  exact val_inj hs (Small.one (by decide)) (by rw [h1];rfl) (by rw [h];rfl)
theorem BP (s t:Bool) (n m:Nat) (hm:0<m):(mkRat (bA (s !=t) n) m).num.natAbs=n/Nat.gcd n m∧(mkRat (bA (s !=t) n) m).den=m/Nat.gcd n m∧decide ((mkRat (bA (s !=t) n) m).num<0)=decide (bA (s !=t) (n/Nat.gcd n m)<0):=by
 have h1:=gA (bA (s !=t) n) m hm;have h2:=lM (bA (s !=t) n) m hm;have h3:=kQ (bA (s !=t) n) m hm;rw [cd,Nat.gcd_comm]at h1 h2;refine ⟨h1,h2,?_⟩;rw [h3,qi,qi];congr 2
 have hg:0<Nat.gcd n m:=Nat.gcd_pos_of_pos_right _ hm;by_cases h:0<n
 ·have:0<n/Nat.gcd n m:=Nat.div_pos (Nat.le_of_dvd h (Nat.gcd_dvd_left n m)) hg
  simp [h,this]
 ·have:n=0:=by omega
  subst this;simp
theorem zB (w:World) (s t:Bool) (a b:Option Addr) (k c k' c' n m:Nat) (_h:Raw w a k c n) (h':Raw w b k' c' m) (hm:m=0):
 Calls prog 117 #[.agg #[.bool s,.slice a k c],.agg #[.bool t,.slice b k' c']] w (bn (mkRat (bA (s !=t) n) m) w):=by
 rw [hm,Rat.mkRat_zero]
 have hS: ∀V,Ext w V→Calls prog 128 #[.agg #[.bool t,.slice b k' c']] V fun e w'=>e= .returned (.int .i64 0)∧Ext V w':=by
  intro V hV;have:=qx V t b k' c' m (h'.ext hV);rw [hm,vk]at this;exact this
 have HS:=ae hS;clear hS
 go_enter func117,ntmps117
 go_wp2_with fail
 obtain ⟨W,hW,x0,Z0,A0,A1,A2⟩:=eT w 117 [.bool s,.slice a k c] 117 [.bool t,.slice b k' c'] 119 [.bool false,.slice none 0 0,.slice none 0 0];rw [←hW];clear hW;have aK:=aG A0 (Ext.refl _);have z0:=(A0.ext (Ext.refl _)).lt;have aT:=aG A1 (Ext.refl _);have z1:=(A1.ext (Ext.refl _)).lt;have bD:=aC A2 (Ext.refl _);have z2:=(A2.ext (Ext.refl _)).lt;refine (HS.o _ x0).mono ?_;rintro e w1 ⟨rfl,x1⟩;have aK:=aG A0 x1;have z0:=(A0.ext x1).lt;have aT:=aG A1 x1;have z1:=(A1.ext x1).lt;have bD:=aC A2 x1;have z2:=(A2.ext x1).lt;go_wp2_with fail
 refine (zA _).mono ?_;intro e w2 hN;obtain ⟨a2,c2,a3,c3,rfl,r2,f2,r3,f3,x2⟩:=id hN;have aK:=aG A0 (x1.trans x2);have z0:=(A0.ext (x1.trans x2)).lt;have aT:=aG A1 (x1.trans x2);have z1:=(A1.ext (x1.trans x2)).lt;have bD:=aC A2 (x1.trans x2);have z2:=(A2.ext (x1.trans x2)).lt;go_wp2_with fail
 exact bodyPost_ret (by simp [results,results117,go_sem, *]) rfl (bn.bF (hN.base x1) x0 (Touch.three _ (by omega) (by rw [Z0.o];omega) _ _ _))
theorem BQ (w:World) (s:Bool) (a b:Option Addr) (k c k' c' n:Nat) (h:Raw w a k c n) (h':Raw w b k' c' 1):
 Calls prog 117 #[.agg #[.bool s,.slice a k c],.agg #[.bool false,.slice b k' c']] w (bn (mkRat (bA (s !=false) n) 1) w):=by
 obtain ⟨m,Cz⟩: ∃m:Nat,m=1:=⟨_,rfl⟩;have hm:0<m:=by omega
 rw [←Cz]at h';obtain ⟨t,ht⟩: ∃t:Bool,t=false:=⟨_,rfl⟩;rw [←ht];have hS: ∀V,Ext w V→Calls prog 128 #[.agg #[.bool t,.slice b k' c']] V fun e w'=>e= .returned (.int .i64 (bA t m).sign)∧Ext V w':=fun V hV=>qx V t b k' c' m (h'.ext hV)
 have K6:((bA t m).sign==0)=false:=by
  rw [beq_eq_false_iff_ne];cases t with
  |true=>rw [jB,Int.sign_eq_neg_one_of_neg (by omega)];decide
  |false=>rw [eX,Int.sign_eq_one_of_pos (by omega)];decide
 generalize (bA t m).sign=sg at hS K6
 have hN: ∀V,Ext w V→Calls prog 170 #[.agg #[.bool t,.slice b k' c']] V fun e w'=> ∃a1 c1,e= .returned (.agg #[.bool t,.slice a1 (len m) c1])∧Raw w' a1 (len m) c1 m∧Fr V.heap.size a1∧Ext V w':=by
  intro V hV;refine (qw V t b k' c' m (h'.ext hV)).mono ?_;rintro e w' ⟨a1,c1,he,hr,hf,hx⟩;rw [cd]at he hr;rw [rQ t m hm]at he;exact ⟨a1,c1,he,hr,hf,hx⟩
 have HS:=ae hS;have HN:=ae hN;clear hS hN
 have Ye: ∀V,Ext w V→Calls prog 170 #[.agg #[.bool s,.slice a k c]] V (bw (bA s n) V):=fun V hV=>qw V s a k c n (h.ext hV);obtain ⟨Z,hZ⟩: ∃Z,Z=bA s n:=⟨_,rfl⟩;rw [←hZ]at Ye;obtain ⟨q,hq⟩: ∃q:Rat,q=mkRat (bA (s !=t) n) 1:=⟨_,rfl⟩
 have mZ:q.num=Z∧q.den=1:=by
  have e:q=((bA s n:Int):Rat):=by rw [hq,ht,Bool.bne_false,Rat.mkRat_one]
  rw [e,hZ];exact ⟨rfl,rfl⟩
 rw [←hq];have HNN:=ae Ye;have HQ:=ae mZ;have MK:=ae Cz
 clear Ye mZ hq hZ Cz;subst ht;go_enter func117,ntmps117
 go_wp2_with fail
 obtain ⟨W,hW,x0,Z0,A0,A1,A2⟩:=eT w 117 [.bool s,.slice a k c] 117 [.bool false,.slice b k' c'] 119 [.bool false,.slice none 0 0,.slice none 0 0];rw [←hW];clear hW;obtain ⟨aK,bf,bN,bO⟩:=aG A0 (Ext.refl _);have z0:=(A0.ext (Ext.refl _)).lt;have aT:=aG A1 (Ext.refl _);have z1:=(A1.ext (Ext.refl _)).lt;obtain ⟨bD,bY,fj,cQ,cR,fV⟩:=aC A2 (Ext.refl _);have z2:=(A2.ext (Ext.refl _)).lt;refine (HS.o _ x0).mono ?_;rintro e w1 ⟨rfl,x1⟩;obtain ⟨aK,bf,bN,bO⟩:=aG A0 x1;have z0:=(A0.ext x1).lt;have aT:=aG A1 x1;have z1:=(A1.ext x1).lt;obtain ⟨bD,bY,fj,cQ,cR,fV⟩:=aC A2 x1;have z2:=(A2.ext x1).lt;go_wp2_with fail
 refine (HN.o _ (x0.trans x1)).mono ?_;rintro e w2 ⟨a1,c1,rfl,r1,f1,x2⟩;obtain ⟨aK,bf,bN,bO⟩:=aG A0 (x1.trans x2);have z0:=(A0.ext (x1.trans x2)).lt;have aT:=aG A1 (x1.trans x2);have z1:=(A1.ext (x1.trans x2)).lt;obtain ⟨bD,bY,fj,cQ,cR,fV⟩:=aC A2 (x1.trans x2);have z2:=(A2.ext (x1.trans x2)).lt;go_upto_region 4 with fail
 obtain ⟨W2,hW2,y2,ZZ2,P0⟩:=aH w2 117 [.bool false,.slice a1 (len m) c1];rw [←hW2];clear hW2;have g2:Ext W W2:=(x1.trans x2).trans y2;obtain ⟨aK,bf,bN,bO⟩:=aG A0 g2;have z0:=(A0.ext g2).lt;have aT:=aG A1 g2;have z1:=(A1.ext g2).lt;obtain ⟨bD,bY,fj,cQ,cR,fV⟩:=aC A2 g2;have z2:=(A2.ext g2).lt;obtain ⟨DF,Gg,LI,LJ⟩:=aG P0 (Ext.refl _);go_wp2_with fail
 have o1:=nJ W2;have y3:Ext W2 (W2.alloc (Obj.cells #[.int .u32 1] 185)):=(Ext.refl _).alloc _;obtain ⟨l,hl,hv,hA⟩:=(r1.ext y2).ext y3;obtain ⟨l',hl',hv',hA'⟩:=o1;have Ku:=BJ _ _ _ _ _ l l' hA hA';have SX:l'= [1]:=val_inj hA'.small (Small.one (by decide)) (by rw [hl'];rfl) (by rw [hv'];rfl);have el:l= [1]:=(ye hA.small (by rw [hl,hv])).2 (by rw [hv,MK.o]);rw [decide_eq_true (show l=l' by rw [el,SX]),hl,hl']at Ku;clear hA hA' hl hl' hv hv' el SX;refine Ku.mono ?_;rintro e w3 ⟨rfl,FQ⟩;clear Ku;have g3:Ext W w3:=(g2.trans y3).trans FQ.ext;have v3:Ext W2 w3:=y3.trans FQ.ext;obtain ⟨aK,bf,bN,bO⟩:=aG A0 g3;have z0:=(A0.ext g3).lt;have aT:=aG A1 g3;have z1:=(A1.ext g3).lt;obtain ⟨bD,bY,fj,cQ,cR,fV⟩:=aC A2 g3;have z2:=(A2.ext g3).lt;obtain ⟨DF,Gg,LI,LJ⟩:=aG P0 v3;go_wp2_with fail
 go_region_held3 (fun w'=>w'.cell? ⟨w.heap.size,0,none⟩=some (.bool s)∧w'.cell? ⟨w.heap.size,1,none⟩=some (.slice a k c)∧w'.cell? ⟨w2.heap.size,0,none⟩=some (.bool false)∧w'.cell? ⟨w2.heap.size,1,none⟩=some (.slice a1 (len m) c1)) (first|exact ⟨aK,bf,DF,Gg⟩|(simp [go_sem,aK,bf,DF,Gg])) (first
  |(go_at_call 170;refine (HNN.o _ (by exact x0.trans g3.drew)).mono ?_;rintro e w4 ⟨a4,c4,rfl,r4,f4,x4⟩;obtain ⟨aK,bf,bN,bO⟩:=aG A0 (g3.drew.trans x4);have z0:=(A0.ext (g3.drew.trans x4)).lt;have aT:=aG A1 (g3.drew.trans x4);have z1:=(A1.ext (g3.drew.trans x4)).lt;obtain ⟨bD,bY,fj,cQ,cR,fV⟩:=aC A2 (g3.drew.trans x4);have z2:=(A2.ext (g3.drew.trans x4)).lt;obtain ⟨DF,Gg,LI,LJ⟩:=aG P0 (v3.drew.trans x4)))
 go_wp2_with fail
 have zz:=Z0.o;have rN:Raw w4 a4 (len q.num.natAbs) c4 q.num.natAbs:=by rw [HQ.o.1];exact r4
 have rD:Raw w4 a1 (len q.den) c1 q.den:=by rw [HQ.o.2,←MK.o];exact (r1.ext y2).ext (v3.drew.trans x4)
 have fin:bn q W (.returned (.agg #[.bool (decide (q.num<0)),.slice a4 (len q.num.natAbs) c4,.slice a1 (len q.den) c1])) w4:=⟨_,_,_,_,rfl,rN,f4.mono g3.drew.size,rD,f1.mono x1.size,g3.drew.trans x4⟩;rw [HQ.o.1,HQ.o.2,←MK.o]at fin;exact bodyPost_ret (by simp [results,results117,go_sem,bD,bY,fj]) rfl (bn.bF fin x0 (Touch.three _ (by omega) (by omega) _ _ _))
theorem xc (w:World) (s t:Bool) (a b:Option Addr) (k c k' c' n m:Nat) (h:Raw w a k c n) (h':Raw w b k' c' m) (ht:t=false) (hm:0<m) (b1:k<900000000) (b2:k'<900000000) (Cz:m≠1):
 Calls prog 117 #[.agg #[.bool s,.slice a k c],.agg #[.bool t,.slice b k' c']] w (bn (mkRat (bA (s !=t) n) m) w):=by
 have hS: ∀V,Ext w V→Calls prog 128 #[.agg #[.bool t,.slice b k' c']] V fun e w'=>e= .returned (.int .i64 (bA t m).sign)∧Ext V w':=fun V hV=>qx V t b k' c' m (h'.ext hV)
 have K6:((bA t m).sign==0)=false:=by
  rw [beq_eq_false_iff_ne];cases t with
  |true=>rw [jB,Int.sign_eq_neg_one_of_neg (by omega)];decide
  |false=>rw [eX,Int.sign_eq_one_of_pos (by omega)];decide
 generalize (bA t m).sign=sg at hS K6
 have hN: ∀V,Ext w V→Calls prog 170 #[.agg #[.bool t,.slice b k' c']] V fun e w'=> ∃a1 c1,e= .returned (.agg #[.bool t,.slice a1 (len m) c1])∧Raw w' a1 (len m) c1 m∧Fr V.heap.size a1∧Ext V w':=by
  intro V hV;refine (qw V t b k' c' m (h'.ext hV)).mono ?_;rintro e w' ⟨a1,c1,he,hr,hf,hx⟩;rw [cd]at he hr;rw [rQ t m hm]at he;exact ⟨a1,c1,he,hr,hf,hx⟩
 have HS:=ae hS;have HN:=ae hN;clear hS hN
 have PE:=h.cj;have zY:=h'.cj;have hg0:0<Nat.gcd n m:=Nat.gcd_pos_of_pos_right _ hm;have Ko:len (Nat.gcd n m)≤len m:=dJ (Nat.le_of_dvd hm (Nat.gcd_dvd_right n m));have U6:0<m/Nat.gcd n m:=Nat.div_pos (Nat.le_of_dvd hm (Nat.gcd_dvd_right n m)) hg0
 have hG: ∀V,Ext w V→Calls prog 172 #[.agg #[.bool s,.slice a k c],.agg #[.bool t,.slice b k' c']] V fun e w'=> ∃a1 c1,e= .returned (.agg #[.bool false,.slice a1 (len (Nat.gcd n m)) c1])∧Raw w' a1 (len (Nat.gcd n m)) c1 (Nat.gcd n m)∧Ext V w':=by
  intro V hV;refine (Jc V s t a b k c k' c' n m (h.ext hV) (h'.ext hV) (by omega) (by omega)).mono ?_;rintro e w' ⟨a1,c1,he,hr,hf,hx⟩;rw [Int.natAbs_natCast]at he hr;rw [decide_eq_false (by omega)]at he;exact ⟨a1,c1,he,hr,hx⟩
 have hD: ∀(V:World) (u:Bool) (a':Option Addr) (j d x:Nat) (a2:Option Addr) (c2:Nat),Raw V a' j d x→j<900000000→x % Nat.gcd n m=0→Raw V a2 (len (Nat.gcd n m)) c2 (Nat.gcd n m)→Calls prog 173 #[.agg #[.bool u,.slice a' j d],.agg #[.bool false,.slice a2 (len (Nat.gcd n m)) c2]] V fun e w'=> ∃a3 c3 a4 c4,e= .returned (.tuple #[.agg #[.bool (decide (bA u (x/Nat.gcd n m)<0)),.slice a3 (len (x/Nat.gcd n m)) c3],.agg #[.bool false,.slice a4 0 c4],.bool true])∧Raw w' a3 (len (x/Nat.gcd n m)) c3 (x/Nat.gcd n m)∧Fr V.heap.size a3∧Ext V w':=by
  intro V u a' j d x a2 c2 hR hj hx0 wZ;have:=yc V u false a' a2 j d _ c2 x _ hR wZ hg0 hj (by omega);obtain ⟨q1,q2⟩:=rK (s:=u) (t:=false) (n:=x) hg0 (Or.inr hx0);rw [q1,q2,hx0,Bool.bne_false]at this;refine this.mono ?_;rintro e w' ⟨a3,c3,a4,c4,he,hr3,hf3,hr4,PZ,hx⟩;rw [cd]at he hr3;exact ⟨a3,c3,a4,c4,he,hr3,hf3,hx⟩
 have hx1:n % Nat.gcd n m=0:=Nat.mod_eq_zero_of_dvd (Nat.gcd_dvd_left n m);have hx2:m % Nat.gcd n m=0:=Nat.mod_eq_zero_of_dvd (Nat.gcd_dvd_right n m);obtain ⟨m1,m2,m3⟩:=BP s t n m hm;obtain ⟨q,hq⟩: ∃q:Rat,q=mkRat (bA (s !=t) n) m:=⟨_,rfl⟩;rw [←hq]at m1 m2 m3⊢;have SY:=rQ t _ U6
 have SZ: ∀(V:World) (a2:Option Addr) (c2:Nat),Ext w V→Raw V a2 (len (Nat.gcd n m)) c2 (Nat.gcd n m)→Calls prog 173 #[.agg #[.bool t,.slice b k' c'],.agg #[.bool false,.slice a2 (len (Nat.gcd n m)) c2]] V fun e w'=> ∃a3 c3 a4 c4,e= .returned (.tuple #[.agg #[.bool t,.slice a3 (len (m/Nat.gcd n m)) c3],.agg #[.bool false,.slice a4 0 c4],.bool true])∧Raw w' a3 (len (m/Nat.gcd n m)) c3 (m/Nat.gcd n m)∧Fr V.heap.size a3∧Ext V w':=by
  intro V a2 c2 hV wZ;have:=hD V t b k' c' m a2 c2 (h'.ext hV) b2 hx2 wZ;rw [SY]at this;exact this
 have OC: ∀(V:World) (a2:Option Addr) (c2:Nat),Ext w V→Raw V a2 (len (Nat.gcd n m)) c2 (Nat.gcd n m)→Calls prog 173 #[.agg #[.bool s,.slice a k c],.agg #[.bool false,.slice a2 (len (Nat.gcd n m)) c2]] V fun e w'=> ∃a3 c3 a4 c4,e= .returned (.tuple #[.agg #[.bool (decide (bA s (n/Nat.gcd n m)<0)),.slice a3 (len (n/Nat.gcd n m)) c3],.agg #[.bool false,.slice a4 0 c4],.bool true])∧Raw w' a3 (len (n/Nat.gcd n m)) c3 (n/Nat.gcd n m)∧Fr V.heap.size a3∧Ext V w':=fun V a2 c2 hV wZ=>hD V s a k c n a2 c2 (h.ext hV) b1 hx1 wZ;have Kf:=dJ (Nat.div_le_self n (Nat.gcd n m));have hl2:=dJ (Nat.div_le_self m (Nat.gcd n m));generalize n/Nat.gcd n m=N at*;generalize m/Nat.gcd n m=D at*;generalize Nat.gcd n m=G at*;obtain ⟨sN,OD⟩: ∃sN,sN=decide (bA s N<0):=⟨_,rfl⟩;rw [←OD]at OC;have HG:=ae hG;have Yf:=ae OC;have S0:=ae SZ
 have M1:=ae m1;have M2:=ae m2;have M3:=ae m3;have Yg:=ae OD;have HQ:=ae hq
 clear hG hD OC SZ hx1 hx2 m1 m2 m3 hq SY OD;subst ht;go_enter func117,ntmps117
 go_wp2_with fail
 obtain ⟨W,hW,x0,Z0,A0,A1,A2⟩:=eT w 117 [.bool s,.slice a k c] 117 [.bool false,.slice b k' c'] 119 [.bool false,.slice none 0 0,.slice none 0 0];rw [←hW];clear hW;have aK:=aG A0 (Ext.refl _);have z0:=(A0.ext (Ext.refl _)).lt;have aT:=aG A1 (Ext.refl _);have z1:=(A1.ext (Ext.refl _)).lt;obtain ⟨bD,bY,fj,cQ,cR,fV⟩:=aC A2 (Ext.refl _);have z2:=(A2.ext (Ext.refl _)).lt;refine (HS.o _ x0).mono ?_;rintro e w1 ⟨rfl,x1⟩;have aK:=aG A0 x1;have z0:=(A0.ext x1).lt;have aT:=aG A1 x1;have z1:=(A1.ext x1).lt;obtain ⟨bD,bY,fj,cQ,cR,fV⟩:=aC A2 x1;have z2:=(A2.ext x1).lt;go_wp2_with fail
 refine (HN.o _ (x0.trans x1)).mono ?_;rintro e w2 ⟨a1,c1,rfl,r1,f1,x2⟩;have aK:=aG A0 (x1.trans x2);have z0:=(A0.ext (x1.trans x2)).lt;have aT:=aG A1 (x1.trans x2);have z1:=(A1.ext (x1.trans x2)).lt;obtain ⟨bD,bY,fj,cQ,cR,fV⟩:=aC A2 (x1.trans x2);have z2:=(A2.ext (x1.trans x2)).lt;go_upto_region 4 with fail
 obtain ⟨W2,hW2,y2,ZZ2,P0⟩:=aH w2 117 [.bool false,.slice a1 (len m) c1];rw [←hW2];clear hW2;have g2:Ext W W2:=(x1.trans x2).trans y2;have aK:=aG A0 g2;have z0:=(A0.ext g2).lt;have aT:=aG A1 g2;have z1:=(A1.ext g2).lt;obtain ⟨bD,bY,fj,cQ,cR,fV⟩:=aC A2 g2;have z2:=(A2.ext g2).lt;have DF:=aG P0 (Ext.refl _);go_wp2_with fail
 have o1:=nJ W2;have y3:Ext W2 (W2.alloc (Obj.cells #[.int .u32 1] 185)):=(Ext.refl _).alloc _;obtain ⟨l,hl,hv,hA⟩:=(r1.ext y2).ext y3;obtain ⟨l',hl',hv',hA'⟩:=o1;have Ku:=BJ _ _ _ _ _ l l' hA hA';have SX:l'= [1]:=val_inj hA'.small (Small.one (by decide)) (by rw [hl'];rfl) (by rw [hv'];rfl)
 have el: ¬l=l':=by
  intro h5;rw [SX]at h5;have:=(ye hA.small (by rw [hl,hv])).1 h5;rw [hv]at this;exact Cz this
 rw [decide_eq_false el,hl,hl']at Ku;clear hA hA' hl hl' hv hv' el SX;refine Ku.mono ?_;rintro e w3 ⟨rfl,FQ⟩;clear Ku;have g3:Ext W w3:=(g2.trans y3).trans FQ.ext;have aK:=aG A0 g3;have z0:=(A0.ext g3).lt;have aT:=aG A1 g3;have z1:=(A1.ext g3).lt;obtain ⟨bD,bY,fj,cQ,cR,fV⟩:=aC A2 g3;have z2:=(A2.ext g3).lt;go_wp2_with fail
 refine (HG.o _ (x0.trans g3)).mono ?_;rintro e w4 ⟨a4,c4,rfl,r4,x4⟩;go_upto_region 7 with fail
 obtain ⟨W4,Ms,y4,ZZ4,P1⟩:=aH w4 117 [.bool false,.slice a4 (len G) c4];rw [←Ms];clear Ms;have g4:Ext W W4:=(g3.trans x4).trans y4;have aK:=aG A0 g4;have z0:=(A0.ext g4).lt;have aT:=aG A1 g4;have z1:=(A1.ext g4).lt;obtain ⟨bD,bY,fj,cQ,cR,fV⟩:=aC A2 g4;have z2:=(A2.ext g4).lt;have OE:=aG P1 (Ext.refl _);go_wp2_with fail
 refine (Yf.o _ _ _ (x0.trans g4) (r4.ext y4)).mono ?_;rintro e w5 ⟨a5,c5,a6,c6,rfl,r5,f5,x5⟩;go_upto_region 8 with fail
 obtain ⟨W5,S1,y5,ZZ5,P2,P3⟩:=fu w5 117 [.bool sN,.slice a5 (len N) c5] 117 [.bool false,.slice a6 0 c6];rw [←S1];clear S1;have g5:Ext W W5:=(g4.trans x5).trans y5;have aK:=aG A0 g5;have z0:=(A0.ext g5).lt;have aT:=aG A1 g5;have z1:=(A1.ext g5).lt;obtain ⟨bD,bY,fj,cQ,cR,fV⟩:=aC A2 g5;have z2:=(A2.ext g5).lt;have OE:=aG P1 (x5.trans y5);have DG:=aG P2 (Ext.refl _);go_wp2_with fail
 refine (S0.o _ _ _ (x0.trans g5) (((r4.ext y4).ext x5).ext y5)).mono ?_;rintro e w6 ⟨a7,c7,a8,c8,rfl,r7,f7,x6⟩;go_upto_region 9 with fail
 obtain ⟨W6,Mp,y6,ZZ6,P4,P5⟩:=fu w6 117 [.bool false,.slice a7 (len D) c7] 117 [.bool false,.slice a8 0 c8];rw [←Mp];clear Mp;have g6:Ext W W6:=(g5.trans x6).trans y6;have v6:Ext W5 W6:=x6.trans y6;have aK:=aG A0 g6;have z0:=(A0.ext g6).lt;have aT:=aG A1 g6;have z1:=(A1.ext g6).lt;obtain ⟨bD,bY,fj,cQ,cR,fV⟩:=aC A2 g6;have z2:=(A2.ext g6).lt;have DG:=aG P2 v6;have Jd:=aG P4 (Ext.refl _);have zz:=Z0.o;go_wp2_with fail
 have rN:Raw W6 a5 (len q.num.natAbs) c5 q.num.natAbs:=by rw [M1.o];exact (r5.ext y5).ext v6
 have rD:Raw W6 a7 (len q.den) c7 q.den:=by rw [M2.o];exact r7.ext y6
 have fin:bn q W (.returned (.agg #[.bool (decide (q.num<0)),.slice a5 (len q.num.natAbs) c5,.slice a7 (len q.den) c7])) W6:=⟨_,_,_,_,rfl,rN,f5.mono g4.size,rD,f7.mono g5.size,g6⟩;rw [M1.o,M2.o,M3.o,Bool.bne_false,←Yg.o]at fin;exact bodyPost_ret (by simp [results,results117,go_sem,bD,bY,fj]) rfl (bn.bF fin x0 (Touch.three _ (by omega) (by omega) _ _ _))
theorem zC (w:World) (s t:Bool) (a b:Option Addr) (k c k' c' n m:Nat) (h:Raw w a k c n) (h':Raw w b k' c' m) (ht:t=true) (hm:0<m) (b1:k<900000000) (b2:k'<900000000):
 Calls prog 117 #[.agg #[.bool s,.slice a k c],.agg #[.bool t,.slice b k' c']] w (bn (mkRat (bA (s !=t) n) m) w):=by
 have hS: ∀V,Ext w V→Calls prog 128 #[.agg #[.bool t,.slice b k' c']] V fun e w'=>e= .returned (.int .i64 (bA t m).sign)∧Ext V w':=fun V hV=>qx V t b k' c' m (h'.ext hV)
 have K6:((bA t m).sign==0)=false:=by
  rw [beq_eq_false_iff_ne];cases t with
  |true=>rw [jB,Int.sign_eq_neg_one_of_neg (by omega)];decide
  |false=>rw [eX,Int.sign_eq_one_of_pos (by omega)];decide
 generalize (bA t m).sign=sg at hS K6
 have hN: ∀V,Ext w V→Calls prog 170 #[.agg #[.bool t,.slice b k' c']] V fun e w'=> ∃a1 c1,e= .returned (.agg #[.bool t,.slice a1 (len m) c1])∧Raw w' a1 (len m) c1 m∧Fr V.heap.size a1∧Ext V w':=by
  intro V hV;refine (qw V t b k' c' m (h'.ext hV)).mono ?_;rintro e w' ⟨a1,c1,he,hr,hf,hx⟩;rw [cd]at he hr;rw [rQ t m hm]at he;exact ⟨a1,c1,he,hr,hf,hx⟩
 have HS:=ae hS;have HN:=ae hN;clear hS hN
 have PE:=h.cj;have zY:=h'.cj;have hg0:0<Nat.gcd n m:=Nat.gcd_pos_of_pos_right _ hm;have Ko:len (Nat.gcd n m)≤len m:=dJ (Nat.le_of_dvd hm (Nat.gcd_dvd_right n m));have U6:0<m/Nat.gcd n m:=Nat.div_pos (Nat.le_of_dvd hm (Nat.gcd_dvd_right n m)) hg0
 have hG: ∀V,Ext w V→Calls prog 172 #[.agg #[.bool s,.slice a k c],.agg #[.bool t,.slice b k' c']] V fun e w'=> ∃a1 c1,e= .returned (.agg #[.bool false,.slice a1 (len (Nat.gcd n m)) c1])∧Raw w' a1 (len (Nat.gcd n m)) c1 (Nat.gcd n m)∧Ext V w':=by
  intro V hV;refine (Jc V s t a b k c k' c' n m (h.ext hV) (h'.ext hV) (by omega) (by omega)).mono ?_;rintro e w' ⟨a1,c1,he,hr,hf,hx⟩;rw [Int.natAbs_natCast]at he hr;rw [decide_eq_false (by omega)]at he;exact ⟨a1,c1,he,hr,hx⟩
 have hD: ∀(V:World) (u:Bool) (a':Option Addr) (j d x:Nat) (a2:Option Addr) (c2:Nat),Raw V a' j d x→j<900000000→x % Nat.gcd n m=0→Raw V a2 (len (Nat.gcd n m)) c2 (Nat.gcd n m)→Calls prog 173 #[.agg #[.bool u,.slice a' j d],.agg #[.bool false,.slice a2 (len (Nat.gcd n m)) c2]] V fun e w'=> ∃a3 c3 a4 c4,e= .returned (.tuple #[.agg #[.bool (decide (bA u (x/Nat.gcd n m)<0)),.slice a3 (len (x/Nat.gcd n m)) c3],.agg #[.bool false,.slice a4 0 c4],.bool true])∧Raw w' a3 (len (x/Nat.gcd n m)) c3 (x/Nat.gcd n m)∧Fr V.heap.size a3∧Ext V w':=by
  intro V u a' j d x a2 c2 hR hj hx0 wZ;have:=yc V u false a' a2 j d _ c2 x _ hR wZ hg0 hj (by omega);obtain ⟨q1,q2⟩:=rK (s:=u) (t:=false) (n:=x) hg0 (Or.inr hx0);rw [q1,q2,hx0,Bool.bne_false]at this;refine this.mono ?_;rintro e w' ⟨a3,c3,a4,c4,he,hr3,hf3,hr4,PZ,hx⟩;rw [cd]at he hr3;exact ⟨a3,c3,a4,c4,he,hr3,hf3,hx⟩
 have hx1:n % Nat.gcd n m=0:=Nat.mod_eq_zero_of_dvd (Nat.gcd_dvd_left n m);have hx2:m % Nat.gcd n m=0:=Nat.mod_eq_zero_of_dvd (Nat.gcd_dvd_right n m);obtain ⟨m1,m2,m3⟩:=BP s t n m hm;obtain ⟨q,hq⟩: ∃q:Rat,q=mkRat (bA (s !=t) n) m:=⟨_,rfl⟩;rw [←hq]at m1 m2 m3⊢;have SY:=rQ t _ U6
 have SZ: ∀(V:World) (a2:Option Addr) (c2:Nat),Ext w V→Raw V a2 (len (Nat.gcd n m)) c2 (Nat.gcd n m)→Calls prog 173 #[.agg #[.bool t,.slice b k' c'],.agg #[.bool false,.slice a2 (len (Nat.gcd n m)) c2]] V fun e w'=> ∃a3 c3 a4 c4,e= .returned (.tuple #[.agg #[.bool t,.slice a3 (len (m/Nat.gcd n m)) c3],.agg #[.bool false,.slice a4 0 c4],.bool true])∧Raw w' a3 (len (m/Nat.gcd n m)) c3 (m/Nat.gcd n m)∧Fr V.heap.size a3∧Ext V w':=by
  intro V a2 c2 hV wZ;have:=hD V t b k' c' m a2 c2 (h'.ext hV) b2 hx2 wZ;rw [SY]at this;exact this
 have OC: ∀(V:World) (a2:Option Addr) (c2:Nat),Ext w V→Raw V a2 (len (Nat.gcd n m)) c2 (Nat.gcd n m)→Calls prog 173 #[.agg #[.bool s,.slice a k c],.agg #[.bool false,.slice a2 (len (Nat.gcd n m)) c2]] V fun e w'=> ∃a3 c3 a4 c4,e= .returned (.tuple #[.agg #[.bool (decide (bA s (n/Nat.gcd n m)<0)),.slice a3 (len (n/Nat.gcd n m)) c3],.agg #[.bool false,.slice a4 0 c4],.bool true])∧Raw w' a3 (len (n/Nat.gcd n m)) c3 (n/Nat.gcd n m)∧Fr V.heap.size a3∧Ext V w':=fun V a2 c2 hV wZ=>hD V s a k c n a2 c2 (h.ext hV) b1 hx1 wZ;have Kf:=dJ (Nat.div_le_self n (Nat.gcd n m));have hl2:=dJ (Nat.div_le_self m (Nat.gcd n m));generalize n/Nat.gcd n m=N at*;generalize m/Nat.gcd n m=D at*;generalize Nat.gcd n m=G at*;obtain ⟨sN,OD⟩: ∃sN,sN=decide (bA s N<0):=⟨_,rfl⟩;rw [←OD]at OC;have HG:=ae hG;have Yf:=ae OC;have S0:=ae SZ
 have M1:=ae m1;have M2:=ae m2;have M3:=ae m3;have Yg:=ae OD;have HQ:=ae hq
 clear hG hD OC SZ hx1 hx2 m1 m2 m3 hq SY OD;subst ht;go_enter func117,ntmps117
 go_wp2_with fail
 obtain ⟨W,hW,x0,Z0,A0,A1,A2⟩:=eT w 117 [.bool s,.slice a k c] 117 [.bool true,.slice b k' c'] 119 [.bool false,.slice none 0 0,.slice none 0 0];rw [←hW];clear hW;obtain ⟨aK,bf,bN,bO⟩:=aG A0 (Ext.refl _);have z0:=(A0.ext (Ext.refl _)).lt;obtain ⟨aT,bH,cM,cN⟩:=aG A1 (Ext.refl _);have z1:=(A1.ext (Ext.refl _)).lt;obtain ⟨bD,bY,fj,cQ,cR,fV⟩:=aC A2 (Ext.refl _);have z2:=(A2.ext (Ext.refl _)).lt;refine (HS.o _ x0).mono ?_;rintro e w1 ⟨rfl,x1⟩;obtain ⟨aK,bf,bN,bO⟩:=aG A0 x1;have z0:=(A0.ext x1).lt;obtain ⟨aT,bH,cM,cN⟩:=aG A1 x1;have z1:=(A1.ext x1).lt;obtain ⟨bD,bY,fj,cQ,cR,fV⟩:=aC A2 x1;have z2:=(A2.ext x1).lt;go_wp2_with fail
 refine (HN.o _ (x0.trans x1)).mono ?_;rintro e w2 ⟨a1,c1,rfl,r1,f1,x2⟩;obtain ⟨aK,bf,bN,bO⟩:=aG A0 (x1.trans x2);have z0:=(A0.ext (x1.trans x2)).lt;obtain ⟨aT,bH,cM,cN⟩:=aG A1 (x1.trans x2);have z1:=(A1.ext (x1.trans x2)).lt;obtain ⟨bD,bY,fj,cQ,cR,fV⟩:=aC A2 (x1.trans x2);have z2:=(A2.ext (x1.trans x2)).lt;go_upto_region 4 with fail
 obtain ⟨W2,hW2,y2,ZZ2,P0⟩:=aH w2 117 [.bool true,.slice a1 (len m) c1];rw [←hW2];clear hW2;have g2:Ext W W2:=(x1.trans x2).trans y2;obtain ⟨aK,bf,bN,bO⟩:=aG A0 g2;have z0:=(A0.ext g2).lt;obtain ⟨aT,bH,cM,cN⟩:=aG A1 g2;have z1:=(A1.ext g2).lt;obtain ⟨bD,bY,fj,cQ,cR,fV⟩:=aC A2 g2;have z2:=(A2.ext g2).lt;obtain ⟨DF,Gg,LI,LJ⟩:=aG P0 (Ext.refl _);obtain ⟨w3,hw3⟩: ∃w3:World,w3=W2:=⟨_,rfl⟩;have g3:Ext W w3:=by rw [hw3];exact g2
 rw [←hw3]at aK bf bN bO aT bH cM cN bD bY fj cQ cR fV DF Gg LI LJ⊢;clear hw3;go_wp2_with fail
 refine (HG.o _ (x0.trans g3)).mono ?_;rintro e w4 ⟨a4,c4,rfl,r4,x4⟩;go_upto_region 7 with fail
 obtain ⟨W4,Ms,y4,ZZ4,P1⟩:=aH w4 117 [.bool false,.slice a4 (len G) c4];rw [←Ms];clear Ms;have g4:Ext W W4:=(g3.trans x4).trans y4;obtain ⟨aK,bf,bN,bO⟩:=aG A0 g4;have z0:=(A0.ext g4).lt;obtain ⟨aT,bH,cM,cN⟩:=aG A1 g4;have z1:=(A1.ext g4).lt;obtain ⟨bD,bY,fj,cQ,cR,fV⟩:=aC A2 g4;have z2:=(A2.ext g4).lt;have OE:=aG P1 (Ext.refl _);go_wp2_with fail
 refine (Yf.o _ _ _ (x0.trans g4) (r4.ext y4)).mono ?_;rintro e w5 ⟨a5,c5,a6,c6,rfl,r5,f5,x5⟩;go_upto_region 8 with fail
 obtain ⟨W5,S1,y5,ZZ5,P2,P3⟩:=fu w5 117 [.bool sN,.slice a5 (len N) c5] 117 [.bool false,.slice a6 0 c6];rw [←S1];clear S1;have g5:Ext W W5:=(g4.trans x5).trans y5;obtain ⟨aK,bf,bN,bO⟩:=aG A0 g5;have z0:=(A0.ext g5).lt;obtain ⟨aT,bH,cM,cN⟩:=aG A1 g5;have z1:=(A1.ext g5).lt;obtain ⟨bD,bY,fj,cQ,cR,fV⟩:=aC A2 g5;have z2:=(A2.ext g5).lt;have OE:=aG P1 (x5.trans y5);have DG:=aG P2 (Ext.refl _);go_wp2_with fail
 refine (S0.o _ _ _ (x0.trans g5) (((r4.ext y4).ext x5).ext y5)).mono ?_;rintro e w6 ⟨a7,c7,a8,c8,rfl,r7,f7,x6⟩;go_upto_region 9 with fail
 obtain ⟨W6,Mp,y6,ZZ6,P4,P5⟩:=fu w6 117 [.bool true,.slice a7 (len D) c7] 117 [.bool false,.slice a8 0 c8];rw [←Mp];clear Mp;have g6:Ext W W6:=(g5.trans x6).trans y6;have v6:Ext W5 W6:=x6.trans y6;obtain ⟨aK,bf,bN,bO⟩:=aG A0 g6;have z0:=(A0.ext g6).lt;obtain ⟨aT,bH,cM,cN⟩:=aG A1 g6;have z1:=(A1.ext g6).lt;obtain ⟨bD,bY,fj,cQ,cR,fV⟩:=aC A2 g6;have z2:=(A2.ext g6).lt;have DG:=aG P2 v6;have Jd:=aG P4 (Ext.refl _);have zz:=Z0.o;obtain ⟨sM,Yh⟩: ∃sM,sM=decide (bA (s !=true) N<0):=⟨_,rfl⟩;have e5:Ext w5 W6:=y5.trans v6
 have hN1: ∀V,Ext W6 V→Calls prog 174 #[.agg #[.bool sN,.slice a5 (len N) c5]] V fun e w'=> ∃a9 c9,e= .returned (.agg #[.bool sM,.slice a9 (len N) c9])∧Raw w' a9 (len N) c9 N∧Fr V.heap.size a9∧Ext V w':=by
  intro V hV;refine (zu V sN a5 _ c5 N ((r5.ext e5).ext hV)).mono ?_;rintro e w' ⟨a9,c9,he,hr,hf,hx⟩
  have e1: -bA sN N=bA (s !=true) N:=by
   have e2:=eH (bA s N);rw [cd,←Yg.o]at e2;rw [e2,←zg];cases s<;>rfl
  rw [e1]at he hr;rw [cd]at he hr;rw [←Yh]at he;exact ⟨a9,c9,he,hr,hf,hx⟩
 have hN2: ∀V,Ext W6 V→Calls prog 174 #[.agg #[.bool true,.slice a7 (len D) c7]] V fun e w'=> ∃a9 c9,e= .returned (.agg #[.bool false,.slice a9 (len D) c9])∧Raw w' a9 (len D) c9 D∧Fr V.heap.size a9∧Ext V w':=by
  intro V hV;refine (zu V true a7 _ c7 D ((r7.ext y6).ext hV)).mono ?_;rintro e w' ⟨a9,c9,he,hr,hf,hx⟩;rw [←zg,Bool.not_true]at he hr;rw [cd]at he hr;rw [rQ false D U6]at he;exact ⟨a9,c9,he,hr,hf,hx⟩
 have Kb:=ae hN1;have GQ:=ae hN2;have wb:=ae Yh
 clear hN1 hN2 Yh;have s45:W.heap.size≤w5.heap.size:=(g4.trans x5).size;have s46:W.heap.size≤w6.heap.size:=(g5.trans x6).size;have s56:w5.heap.size<w6.heap.size:=Nat.lt_of_lt_of_le P2.lt x6.size;go_upto_region 10 with fail
 have lB:True:=trivial;go_cut [] (fun wx=> ∃a9 c9 Kv c10,aJ wx w5.heap.size 117 [.bool sM,.slice a9 (len N) c9]∧aJ wx w6.heap.size 117 [.bool false,.slice Kv (len D) c10]∧Raw wx a9 (len N) c9 N∧Raw wx Kv (len D) c10 D∧Fr W.heap.size a9∧Fr W.heap.size Kv∧Ext W wx)
 case first=>
  go_region_with (first
   |(go_at_call 174;have _t:=lB;refine (Kb.o _ (by exact (Ext.refl _).drew)).mono ?_;rintro e w7 ⟨a9,c9,rfl,r9,f9,x7⟩;clear lB _t;have DG:=aG P2 (v6.drew.trans x7);have Jd:=aG P4 ((Ext.refl _).drew.trans x7))
   |(go_at_call 174;refine (GQ.o _ (by exact (Ext.refl _).drew.trans x7)).mono ?_;rintro e w8 ⟨Kv,c10,rfl,S2,f10,x8⟩;have DG:=aG P2 (v6.drew.trans (x7.trans x8));have Jd:=aG P4 ((Ext.refl _).drew.trans (x7.trans x8))))
  all_goals go_wp2_with fail
  all_goals go_meet
  all_goals have g8:Ext W6 w8:=(Ext.refl _).drew.trans (x7.trans x8)
  all_goals have z9:Fr (w6.heap.size+1) a9:=f9.mono P4.lt
  all_goals have OG:Fr (w6.heap.size+1) Kv:=f10.mono (Nat.le_trans P4.lt x7.size)
  all_goals exact ⟨a9,c9,Kv,c10,(((P2.ext v6).ext g8).BG _ _).jh _ _ (by omega),((P4.ext g8).jh _ _ (by omega)).BG _ _,(((((r9.ext x8).setCell _ _ (z9.ne (by simp only;omega))).setCell _ _ (z9.ne (by simp only;omega))).setCell _ _ (z9.ne (by simp only;omega))).setCell _ _ (z9.ne (by simp only;omega))),((((S2.setCell _ _ (OG.ne (by simp only;omega))).setCell _ _ (OG.ne (by simp only;omega))).setCell _ _ (OG.ne (by simp only;omega))).setCell _ _ (OG.ne (by simp only;omega))),z9.mono (by omega),OG.mono (by omega),(((((g6.trans g8).setCell s45 _).setCell s45 _).setCell s46 _).setCell s46 _)⟩
 case rest=>
  obtain ⟨a9,c9,Kv,c10,E7,E10,r9,S2,f9,f10,g9⟩:=hcut;clear DG Jd;obtain ⟨w9,rfl⟩: ∃w9:World,w9=wc:=⟨_,rfl⟩;obtain ⟨aK,bf,bN,bO⟩:=aG A0 g9;have z0:=(A0.ext g9).lt;obtain ⟨aT,bH,cM,cN⟩:=aG A1 g9;have z1:=(A1.ext g9).lt;obtain ⟨bD,bY,fj,cQ,cR,fV⟩:=aC A2 g9;have z2:=(A2.ext g9).lt;have DG:=aG E7 (Ext.refl _);have Jd:=aG E10 (Ext.refl _);go_wp2_with fail
  have rN:Raw w9 a9 (len q.num.natAbs) c9 q.num.natAbs:=by rw [M1.o];exact r9
  have rD:Raw w9 Kv (len q.den) c10 q.den:=by rw [M2.o];exact S2
  have fin:bn q W (.returned (.agg #[.bool (decide (q.num<0)),.slice a9 (len q.num.natAbs) c9,.slice Kv (len q.den) c10])) w9:=⟨_,_,_,_,rfl,rN,f9,rD,f10,g9⟩;rw [M1.o,M2.o,M3.o,←wb.o]at fin;exact bodyPost_ret (by simp [results,results117,go_sem,bD,bY,fj]) rfl (bn.bF fin x0 (Touch.three _ (by omega) (by omega) _ _ _))
theorem zD (w:World) (s t:Bool) (a b:Option Addr) (k c k' c' n m:Nat) (h:Raw w a k c n) (h':Raw w b k' c' m) (b1:k<900000000) (b2:k'<900000000):
 Calls prog 117 #[.agg #[.bool s,.slice a k c],.agg #[.bool t,.slice b k' c']] w (bn (mkRat (bA (s !=t) n) m) w):=by
 by_cases h0:m=0
 ·exact zB w s t a b k c k' c' n m h h' h0
 ·cases t with
  |true=>exact zC w s true a b k c k' c' n m h h' rfl (by omega) b1 b2
  |false=>
   by_cases h1:m=1
   ·subst h1;exact BQ w s a b k c k' c' n h h'
   ·exact xc w s false a b k c k' c' n m h h' rfl (by omega) b1 b2 h1
theorem Tryz.rat_num (s:Bool) (a b:Option Addr) (k c j d:Nat) (w:World):(Instr.field 119 (.agg #[.bool s,.slice a k c,.slice b j d]) 0).run Tryz.prog w= .ok (.agg #[.bool s,.slice a k c]) w:=by kernel_rfl
theorem Tryz.rat_den (s:Bool) (a b:Option Addr) (k c j d:Nat) (w:World):(Instr.field 119 (.agg #[.bool s,.slice a k c,.slice b j d]) 1).run Tryz.prog w= .ok (.slice b j d) w:=by kernel_rfl
theorem bn.vv {q:Rat} {w w':World} {e:Ending} (h:bn q w e w'):dY (decide (q.num<0)) q.num.natAbs q.den w e w':=h
theorem dY.zm {q:Rat} {w w':World} {e:Ending} (h:dY (decide (q.num<0)) q.num.natAbs q.den w e w'):bn q w e w':=h
theorem dY.OH {s:Bool} {n m:Nat} {w W w1 w2 w3:World} {e:Ending} (h:dY s n m w1 e w2) (hW:Ext w W) (h1:Ext W w1) (t:Touch w.heap.size W.heap.size w2 w3):dY s n m w e w3:=by
 obtain ⟨a,c,a',c',he,hr,hf,ku,hf',hx⟩:=h;exact ⟨a,c,a',c',he,hr.bF t (hf.mono h1.size).o,hf.mono (Nat.le_trans hW.size h1.size),ku.bF t (hf'.mono h1.size).o,hf'.mono (Nat.le_trans hW.size h1.size),hW.bF (h1.trans hx) t⟩
theorem qy (w:World) (s:Bool) (a b:Option Addr) (k c j d n m:Nat) (h:Raw w a k c n) (g:Raw w b j d m) (b1:k<200000000) (b2:j<200000000):
 Calls prog 129 #[.agg #[.bool s,.slice a k c,.slice b j d]] w (bn (mkRat (bA s n) m) w):=by
 have hM: ∀V,Ext w V→Calls prog 117 #[.agg #[.bool s,.slice a k c],.agg #[.bool false,.slice b j d]] V (bn (mkRat (bA s n) m) V):=by
  intro V hV;have:=zD V s false a b k c j d n m (h.ext hV) (g.ext hV) (by omega) (by omega);rw [Bool.bne_false]at this;exact this
 have HM:=ae hM;clear hM
 go_enter func129,ntmps129
 go_wp2_with fail
 obtain ⟨W,hW,x0,Z0,A0,A1⟩:=fu w 119 [.bool s,.slice a k c,.slice b j d] 119 [.bool false,.slice none 0 0,.slice none 0 0];rw [←hW];clear hW;have aK:=aC A0 (Ext.refl _);have z0:=(A0.ext (Ext.refl _)).lt;obtain ⟨aT,bH,eV,cM,cN,iX⟩:=aC A1 (Ext.refl _);have z1:=(A1.ext (Ext.refl _)).lt;refine (HM.o _ x0).mono ?_;intro e w1 hN;obtain ⟨a1,c1,a2,c2,rfl,r1,f1,r2,f2,x1⟩:=id hN;have aK:=aC A0 x1;have z0:=(A0.ext x1).lt;obtain ⟨aT,bH,eV,cM,cN,iX⟩:=aC A1 x1;have z1:=(A1.ext x1).lt;go_wp2_with fail
 exact bodyPost_ret (by simp [results,results129,go_sem,aT,bH,eV]) rfl (bn.bF hN x0 (Touch.three _ (by omega) (by rw [Z0.o];omega) _ _ _))
theorem BR (w:World) (s:Bool) (a b:Option Addr) (k c j d _n _m:Nat) (sP:Bool) (nP dP:Nat) (hN: ∀V,Ext w V→Calls prog 129 #[.agg #[.bool s,.slice a k c,.slice b j d]] V (dY sP nP dP V)):
 Calls prog 213 #[.agg #[.bool s,.slice a k c,.slice b j d]] w (gh false dP w):=by
 have HN:=ae hN;clear hN
 have U7:=Tryz.rat_den;go_enter func213,ntmps213
 go_wp2_with fail
 obtain ⟨W,hW,x0,Z0,A0,A1⟩:=fu w 119 [.bool s,.slice a k c,.slice b j d] 117 [.bool false,.slice none 0 0];rw [←hW];clear hW;have aK:=aC A0 (Ext.refl _);have z0:=(A0.ext (Ext.refl _)).lt;obtain ⟨aT,bH,cM,cN⟩:=aG A1 (Ext.refl _);have z1:=(A1.ext (Ext.refl _)).lt;refine (HN.o _ x0).mono ?_;rintro e w1 ⟨a1,c1,a2,c2,rfl,r1,f1,r2,f2,x1⟩;have aK:=aC A0 x1;have z0:=(A0.ext x1).lt;obtain ⟨aT,bH,cM,cN⟩:=aG A1 x1;have z1:=(A1.ext x1).lt;go_wp2_with fail
 have fin:gh false dP W (.returned (.agg #[.bool false,.slice a2 (len dP) c2])) w1:=⟨_,_,rfl,r2,f2,x1⟩;exact bodyPost_ret (by simp [results,results213,go_sem,aT,bH]) rfl (gh.bF fin x0 (Touch.two _ (by omega) (by rw [Z0.o];omega) _ _))
theorem DI (w:World) (s:Bool) (a b:Option Addr) (k c j d n m:Nat) (h:Raw w a k c n) (g:Raw w b j d m) (b1:k<200000000) (b2:j<200000000):
 Calls prog 213 #[.agg #[.bool s,.slice a k c,.slice b j d]] w (gh false (mkRat (bA s n) m).den w):=
 BR w s a b k c j d n m (decide ((mkRat (bA s n) m).num<0)) (mkRat (bA s n) m).num.natAbs (mkRat (bA s n) m).den (fun V hV=>(qy V s a b k c j d n m (h.ext hV) (g.ext hV) b1 b2).mono (fun _ _ hh=>hh.vv))
theorem zE (w:World) (s:Bool) (a b:Option Addr) (k c j d _n _m:Nat) (sP:Bool) (nP dP:Nat) (z:Int) (hN: ∀V,Ext w V→Calls prog 129 #[.agg #[.bool s,.slice a k c,.slice b j d]] V (dY sP nP dP V))
 (hS: ∀V a c,Raw V a (len nP) c nP→Calls prog 128 #[.agg #[.bool sP,.slice a (len nP) c]] V fun e w'=>e= .returned (.int .i64 z)∧Ext V w'):
 Calls prog 74 #[.agg #[.bool s,.slice a k c,.slice b j d]] w fun e w'=>e= .returned (.int .i64 z)∧Ext w w':=by
 have HN:=ae hN;have HS:=ae hS;clear hN hS
 have U8:=Tryz.rat_num;go_enter func74,ntmps74
 go_wp2_with fail
 obtain ⟨W,hW,x0,Z0,A0⟩:=aH w 119 [.bool s,.slice a k c,.slice b j d];rw [←hW];clear hW;have aK:=aC A0 (Ext.refl _);have z0:=(A0.ext (Ext.refl _)).lt;refine (HN.o _ x0).mono ?_;rintro e w1 ⟨a1,c1,a2,c2,rfl,r1,f1,r2,f2,x1⟩;go_wp2_with fail
 refine (HS.o _ _ _ r1).mono ?_;rintro e w2 ⟨rfl,x2⟩;go_wp2_with fail
 go_ret;exact ⟨rfl,(x0.trans x1).trans x2⟩
theorem ES (w:World) (s:Bool) (a b:Option Addr) (k c j d n m:Nat) (h:Raw w a k c n) (g:Raw w b j d m) (b1:k<200000000) (b2:j<200000000):
 Calls prog 74 #[.agg #[.bool s,.slice a k c,.slice b j d]] w fun e w'=>e= .returned (.int .i64 (mkRat (bA s n) m).num.sign)∧Ext w w':=
 zE w s a b k c j d n m (decide ((mkRat (bA s n) m).num<0)) (mkRat (bA s n) m).num.natAbs (mkRat (bA s n) m).den _ (fun V hV=>(qy V s a b k c j d n m (h.ext hV) (g.ext hV) b1 b2).mono (fun _ _ hh=>hh.vv))
  (fun V a c hR=>by
    have:=qx V (decide ((mkRat (bA s n) m).num<0)) a _ c _ hR;rw [eH]at this;exact this)
theorem DJ (w:World) (x y:Int) (s1 s2 s:Bool) (n1 n2 n m:Nat) (h1: ∀V,Calls prog 118 #[.int .i64 x] V (gh s1 n1 V)) (h2: ∀V,Calls prog 118 #[.int .i64 y] V (gh s2 n2 V))
 (h3: ∀V a c b d,Raw V a (len n1) c n1→Raw V b (len n2) d n2→Calls prog 117 #[.agg #[.bool s1,.slice a (len n1) c],.agg #[.bool s2,.slice b (len n2) d]] V (dY s n m V)):
 Calls prog 66 #[.int .i64 x,.int .i64 y] w (dY s n m w):=by
 have H1:=ae h1;have H2:=ae h2;have H3:=ae h3;clear h1 h2 h3
 go_enter func66,ntmps66
 go_wp2_with fail
 obtain ⟨W,hW,x0,Z0,A0⟩:=aH w 119 [.bool false,.slice none 0 0,.slice none 0 0];rw [←hW];clear hW;obtain ⟨aK,bf,dE,bN,bO,fG⟩:=aC A0 (Ext.refl _);have z0:=(A0.ext (Ext.refl _)).lt;refine (H1.o _).mono ?_;rintro e w1 ⟨a1,c1,rfl,r1,f1,x1⟩;obtain ⟨aK,bf,dE,bN,bO,fG⟩:=aC A0 x1;have z0:=(A0.ext x1).lt;go_wp2_with fail
 refine (H2.o _).mono ?_;rintro e w2 ⟨a2,c2,rfl,r2,f2,x2⟩;obtain ⟨aK,bf,dE,bN,bO,fG⟩:=aC A0 (x1.trans x2);have z0:=(A0.ext (x1.trans x2)).lt;go_wp2_with fail
 refine (H3.o _ _ _ _ _ (r1.ext x2) r2).mono ?_;intro e w3 hN;obtain ⟨a3,c3,a4,c4,rfl,r3,f3,r4,f4,x3⟩:=id hN;obtain ⟨aK,bf,dE,bN,bO,fG⟩:=aC A0 ((x1.trans x2).trans x3);have z0:=(A0.ext ((x1.trans x2).trans x3)).lt;go_wp2_with fail
 exact bodyPost_ret (by simp [results,results66,go_sem,aK,bf,dE]) rfl (dY.bF (hN.base (x1.trans x2)) x0 (Touch.three _ (by omega) (by rw [Z0.o];omega) _ _ _))
theorem Je (w:World) (x:Int) (y:Nat) (h1: -9223372036854775808≤x) (h2:x≤9223372036854775807) (h3:y≤9223372036854775807):
 Calls prog 66 #[.int .i64 x,.int .i64 (y:Nat)] w (bn (mkRat x y) w):=
 DJ w x y _ _ _ _ _ _ _ (fun V=>pd V x h1 h2) (fun V=>pd V y (by omega) (by omega))
  (fun V a c b d hR S3=>by
    have:=zD V (decide (x<0)) (decide ((y:Int)<0)) a b _ c _ d _ _ hR S3 (by have:=nG h1 h2;omega) (by have:=nG (z:=(y:Int)) (by omega) (by omega);omega);rw [decide_eq_false (show¬(y:Int)<0 by omega),Bool.bne_false,eH,Int.natAbs_natCast]at this;rw [decide_eq_false (show¬(y:Int)<0 by omega),Int.natAbs_natCast];exact this)
theorem BU (w:World) (s:Bool) (a b:Option Addr) (k c j d:Nat) (sP s1 sR:Bool) (nP dP n1 nR dR:Nat) (hN: ∀V,Ext w V→Calls prog 129 #[.agg #[.bool s,.slice a k c,.slice b j d]] V (dY sP nP dP V)) (hD: ∀V,Ext w V→Calls prog 213 #[.agg #[.bool s,.slice a k c,.slice b j d]] V (gh false dP V)) (hI: ∀V a c,Raw V a (len nP) c nP→Calls prog 174 #[.agg #[.bool sP,.slice a (len nP) c]] V (gh s1 n1 V)) (hM: ∀V a c b d,Raw V a (len n1) c n1→Raw V b (len dP) d dP→Calls prog 117 #[.agg #[.bool s1,.slice a (len n1) c],.agg #[.bool false,.slice b (len dP) d]] V (dY sR nR dR V)):
 Calls prog 180 #[.agg #[.bool s,.slice a k c,.slice b j d]] w (dY sR nR dR w):=by
 have HN:=ae hN;have HD:=ae hD;have HI:=ae hI;have HM:=ae hM;clear hN hD hI hM
 have U8:=Tryz.rat_num;have U7:=Tryz.rat_den;go_enter func180,ntmps180
 go_wp2_with fail
 obtain ⟨W,hW,x0,Z0,A0,A1⟩:=fu w 119 [.bool s,.slice a k c,.slice b j d] 119 [.bool false,.slice none 0 0,.slice none 0 0];rw [←hW];clear hW;obtain ⟨aK,bf,dE,bN,bO,fG⟩:=aC A0 (Ext.refl _);have z0:=(A0.ext (Ext.refl _)).lt;obtain ⟨aT,bH,eV,cM,cN,iX⟩:=aC A1 (Ext.refl _);have z1:=(A1.ext (Ext.refl _)).lt
 go_region_held3 (fun w'=>w'.cell? ⟨w.heap.size,0,none⟩=some (.bool s)∧w'.cell? ⟨w.heap.size,1,none⟩=some (.slice a k c)∧w'.cell? ⟨w.heap.size,2,none⟩=some (.slice b j d)) (first|exact ⟨aK,bf,dE⟩|(simp [go_sem,aK,bf,dE])) (first
  |(go_at_call 129;refine (HN.o _ (by exact x0.trans ((Ext.refl _).drew))).mono ?_;rintro e w1 ⟨a1,c1,b1,d1,rfl,r1,f1,q1,g1,x1⟩;obtain ⟨aK,bf,dE,bN,bO,fG⟩:=aC A0 (((Ext.refl _).drew).trans x1);have z0:=(A0.ext (((Ext.refl _).drew).trans x1)).lt;obtain ⟨aT,bH,eV,cM,cN,iX⟩:=aC A1 (((Ext.refl _).drew).trans x1);have z1:=(A1.ext (((Ext.refl _).drew).trans x1)).lt)
  |(go_at_call 174;refine (HI.o _ _ _ r1).mono ?_;rintro e w2 ⟨a2,c2,rfl,r2,f2,x2⟩;obtain ⟨aK,bf,dE,bN,bO,fG⟩:=aC A0 ((((Ext.refl _).drew).trans x1).trans x2);have z0:=(A0.ext ((((Ext.refl _).drew).trans x1).trans x2)).lt;obtain ⟨aT,bH,eV,cM,cN,iX⟩:=aC A1 ((((Ext.refl _).drew).trans x1).trans x2);have z1:=(A1.ext ((((Ext.refl _).drew).trans x1).trans x2)).lt)
  |(go_at_call 213;refine (HD.o _ (by exact x0.trans ((((Ext.refl _).drew).trans x1).trans x2))).mono ?_;rintro e w3 ⟨a3,c3,rfl,r3,f3,x3⟩;obtain ⟨aK,bf,dE,bN,bO,fG⟩:=aC A0 (((((Ext.refl _).drew).trans x1).trans x2).trans x3);have z0:=(A0.ext (((((Ext.refl _).drew).trans x1).trans x2).trans x3)).lt;obtain ⟨aT,bH,eV,cM,cN,iX⟩:=aC A1 (((((Ext.refl _).drew).trans x1).trans x2).trans x3);have z1:=(A1.ext (((((Ext.refl _).drew).trans x1).trans x2).trans x3)).lt)
  |(go_at_call 117;refine (HM.o _ _ _ _ _ (r2.ext x3) r3).mono ?_;intro e w4 na;obtain ⟨a4,c4,b4,d4,rfl,r4,f4,q4,g4,x4⟩:=id na;obtain ⟨aK,bf,dE,bN,bO,fG⟩:=aC A0 ((((((Ext.refl _).drew).trans x1).trans x2).trans x3).trans x4);have z0:=(A0.ext ((((((Ext.refl _).drew).trans x1).trans x2).trans x3).trans x4)).lt;obtain ⟨aT,bH,eV,cM,cN,iX⟩:=aC A1 ((((((Ext.refl _).drew).trans x1).trans x2).trans x3).trans x4);have z1:=(A1.ext ((((((Ext.refl _).drew).trans x1).trans x2).trans x3).trans x4)).lt))
 go_wp2_with fail
 exact bodyPost_ret (by simp [results,results180,go_sem,aT,bH,eV]) rfl (dY.bF (na.base ((x1.trans x2).trans x3)) x0.drew (Touch.three _ (by omega) (by rw [World.drew,Z0.o];omega) _ _ _))
end Go.Proofs.YtkpngkdgphojlaaGreat
