/- Texts of the proof. -/
import Derived.Test.YtbnamicbjaaelaaGreatCg34
import Derived.Test.YtbnamicbjaaelaaGreatCg39
set_option linter.all false
set_option maxHeartbeats 1000000
set_option maxRecDepth 100000
namespace Go.Proofs.YtbnamicbjaaelaaGreat
open Go.Proofs.Tryz
open Go.RowKit
def MJ (c:ay) (u:Nat):Int:=(c.aA[u]?.map aP.eK).getD 0
def pk (c:ay) (x:mZ):Bool:=if x.kind=0 then decide (x.least<=qF c x.hour.toNat (x.aA.map Int.toNat))else(x.length==0)||decide (x.length<MJ c x.unit.toNat)
noncomputable def mB (c:ay) (x:mZ):Int:=if cE c≠0 then cE c else if(m9 c x&&pk c x)=true then 0 else 72
noncomputable def yi (c:ay) (hour:Int) (l:List Int):Int×Int:=if cE c≠0 then(0,cE c)else if mg c hour=false then(0,12)else if pW c.aA.length l=false then(0,72)else(qF c hour.toNat (l.map Int.toNat),0)
theorem qd (us:List Nat):(aR us).map Int.toNat=us:=by
 unfold aR;rw [List.map_map]
 have:(Int.toNat∘λ(j:Nat)=>(j:Int))=id:=by funext j;simp
 rw [this,List.map_id]
theorem En {n:Nat} {l:List Int} (h:pW n l=true): ∃us:List Nat,l=aR us/\nK n us/\0<us.length:=by
 unfold pW at h;rw [Bool.and_eq_true,decide_eq_true_eq]at h;obtain ⟨us,h1,h2⟩:=L4 h.1;refine ⟨us,h1,h2,?_⟩;have:=h.2;rw [h1,aN]at this;exact this
theorem yj {c:ay} {h:Int} (e:mg c h=true): ∃n:Nat,h=(n:Int)/\(n:Int)<c.hours:=by
 unfold mg at e;rw [Bool.and_eq_true,decide_eq_true_eq,decide_eq_true_eq]at e;exact ⟨h.toNat,ae,ae⟩
theorem Eo {c:ay} {x:mZ} (h:m9 c x=true) (hk:x.kind=0): ∃(n k:Nat) (us:List Nat),x.hour=(n:Int)/\(n:Int)<c.hours/\x.aA=aR us/\nK c.aA.length us/\0<us.length/\x.least=(k:Int)/\1<=k/\k<=us.length:=by
 unfold m9 at h;rw [if_pos hk]at h;simp only [Bool.and_eq_true,decide_eq_true_eq]at h;obtain ⟨hh,⟨⟨⟨h1,h2⟩,h3⟩,h4⟩,h5⟩:=h;obtain ⟨n,e1,e2⟩:=yj hh;obtain ⟨us,u1,u2,u3⟩:=En h1;rw [u1,aN]at h3;exact ⟨n,x.least.toNat,us,e1,e2,u1,u2,u3,ae,ae,ae⟩
theorem Gx {c:ay} {x:mZ} (h:m9 c x=true) (hk:x.kind≠0):x.kind=1/\0<=x.unit/\x.unit<c.aA.length/\0<=x.length:=by
 unfold m9 at h;rw [if_neg hk]at h;by_cases h1:x.kind=1
 .rw [if_pos h1]at h
  simp only [Bool.and_eq_true,decide_eq_true_eq]at h;obtain ⟨_,⟨⟨⟨⟨a,b⟩,d⟩,_⟩,_⟩,_⟩:=h;exact ⟨h1,a,b,d⟩
 .rw [if_neg h1,Bool.and_false]at h;cases h
theorem Ep (V:World) (c:ay) (x:mZ) (hc:bm V c) (hl:oX c) (hI:aS V x.ua x.uc x.aA):
 Calls prog 13 #[.agg (C8 c),.agg #[i64 x.kind,i64 x.hour,.slice x.ua x.aA.length x.uc,i64 x.least,i64 x.unit,i64 x.length]] V λe w'=>e= .returned (i64 (mB c x))/\Ext V w':=by
 try unfold C8
 have eT:=ah hc;have HI:=ah hI;have oB:=ah hl
 have ue:c.aA.length<=9223372036854775807:=bA hl.aA;have O8:Hid (mB c x=if cE c≠0 then cE c else if(m9 c x&&pk c x)=true then 0 else 72):=rfl;have HVC:Hid (pk c x=if x.kind=0 then decide (x.least<=qF c x.hour.toNat (x.aA.map Int.toNat))else(x.length==0)||decide (x.length<MJ c x.unit.toNat)):=rfl;have Gy:Hid (cE c=0->iB c):=pM;obtain ⟨ce,hce⟩: ∃ce,ce=cE c:=⟨_,rfl⟩;rw [<-hce]at O8 Gy;obtain ⟨ve,XI⟩: ∃ve,ve=mB c x:=⟨_,rfl⟩;rw [<-XI]at O8⊢;have Mp:=ah hce;clear hc hI hl hce XI;go_enter func13,ntmps13
 go_upto_region 1 with fail
 obtain ⟨W,hW,x0,Z0,A0,A1⟩:=dZ V 32 c.cells 24 x.cells;rw [show(V.alloc (.cells (C8 c) 32)).alloc (.cells #[i64 x.kind,i64 x.hour,.slice x.ua x.aA.length x.uc,i64 x.least,i64 x.unit,i64 x.length] 24)=W from hW.symm];obtain ⟨B,hB⟩: ∃B,B=V.heap.size:=⟨_,rfl⟩;obtain ⟨X,hX⟩: ∃X,X=V.heap.size+1:=⟨_,rfl⟩;rw [<-hX]at A1⊢;rw [<-hB]at A0⊢;have HX:=ah x0;have HA:=ah A0;have HB:=ah A1
 clear hW x0 Z0 A0 A1 hB hX;obtain ⟨k0,k1,k2,k3,k4,k5,k6,k7⟩:=ay.at HA.o;obtain ⟨O6,H4,H5,H6,JN,Kp⟩:=mZ.at HB.o;go_wp2_with fail
 refine (yf W c (eT.o.ext HX.o) oB.o).mono ?_;rintro e w1 ⟨ek,ei,ef,rfl,xx⟩;go_upto_region 2 with fail
 obtain ⟨W2,hW2,x2,Z2,A2⟩:=aV w1 78 [i64 ek,i64 ei,i64 ef];rw [show w1.alloc (.cells #[i64 ek,i64 ei,i64 ef] 78)=W2 from hW2.symm];clear hW2 Z2 A2;rw [<-Mp.o];clear k0 k1 k2 k3 k4 k5 k6 k7 O6 H4 H5 H6 JN Kp;have HA:=ah (HA.o.ext (xx.trans x2));have HB:=ah (HB.o.ext (xx.trans x2));have HX:=ah (HX.o.trans (xx.trans x2))
 clear xx x2;obtain ⟨k0,k1,k2,k3,k4,k5,k6,k7⟩:=ay.at HA.o;obtain ⟨O6,H4,H5,H6,JN,Kp⟩:=mZ.at HB.o;by_cases hz:ce=0
 rotate_left
 .have HQ:Hid (ve=ce):=by show _=_;rw [O8.o,if_pos hz]
  have tz:(ce !=0)=true:=by simpa using hz
  clear hz;go_wp2
  go_ret;exact ⟨by rw [HQ.o];rfl,HX.o⟩
 have tz:(ce !=0)=false:=by simpa using hz
 have gA:=Gy.o hz;have zk:Hid (ve=if(m9 c x&&pk c x)=true then 0 else 72):=by show _=_;rw [O8.o,if_neg (λe=>e hz)]
 have qG:=ah gA;clear hz gA Gy;have HFM:=ah (JM W2 c x (HI.o.ext HX.o) ue);clear ue;go_wp2_with fail
 refine HFM.o.mono ?_;rintro e w3 ⟨rfl,xx⟩;clear k0 k1 k2 k3 k4 k5 k6 k7 O6 H4 H5 H6 JN Kp;have HA:=ah (HA.o.ext xx);have HB:=ah (HB.o.ext xx);have HX:=ah (HX.o.trans xx)
 clear xx;obtain ⟨k0,k1,k2,k3,k4,k5,k6,k7⟩:=ay.at HA.o;obtain ⟨O6,H4,H5,H6,JN,Kp⟩:=mZ.at HB.o;clear HFM;rcases Bool.eq_false_or_eq_true (m9 c x)with hf|hf;rotate_left
 .rw [hf]
  have HQ:Hid (ve=72):=by show _=_;rw [zk.o];rw [hf];rfl
  go_wp2
  go_ret;exact ⟨by rw [HQ.o];rfl,HX.o⟩
 rw [hf];have HF:=ah hf;clear hf;by_cases hk:x.kind=0
 .obtain ⟨n,k,us,e1,e2,e3,e4,e5,e6,e7,e8⟩:=Eo HF.o hk
  have TR:Hid (pk c x=decide (k<=qF c n us)):=by
   show _=_;rw [HVC.o,if_pos hk,e6,e1,e3,qd,Int.toNat_natCast];rw [Bool.eq_iff_iff];simp
  have tk:(x.kind==0)=true:=by rw [hk];rfl
  have tQ:x.aA.length=us.length:=by rw [e3,aN]
  rw [e1]at H4;rw [e6]at H6;rw [tQ]at H5
  have Zz:Hid (∀U,Ext V U->Calls prog 32 #[.agg (C8 c),.int .i64 (n:Int),.slice x.ua us.length x.uc] U λe w'=>e= .returned (i64 ((qF c n us:Nat):Int))/\Ext U w'):=λU hU=>by
   have hxI:=(HI.o.ext hU);rw [e3]at hxI;exact uX V U c n us x.ua x.uc hU eT.o qG.o e2 e4 e5 hxI
  generalize qF c n us=gr at*;clear hk e1 e2 e3 e4 e5 e6 e7 e8 tQ;by_cases hg:gr<k
  .have tg:decide ((gr:Int)<(k:Int))=true:=by simp;omega
   go_wp2_with fail
   refine aO (λw'=>w'.cell? ⟨B,0,none⟩=some (i64 c.hours)/\w'.cell? ⟨B,1,none⟩=some (.slice c.ra c.aX.length c.rc)/\w'.cell? ⟨B,2,none⟩=some (.slice c.ba c.aF.length c.bc)/\w'.cell? ⟨B,3,none⟩=some (.slice c.la c.lines.length c.lc)/\w'.cell? ⟨B,4,none⟩=some (.slice c.ua c.aA.length c.uc)/\w'.cell? ⟨B,5,none⟩=some (.slice c.sa c.stores.length c.sc)/\w'.cell? ⟨B,6,none⟩=some (.slice c.ta c.bh.length c.tc)/\w'.cell? ⟨B,7,none⟩=some (.slice c.oa c.outs.length c.oc)/\w'.cell? ⟨X,1,none⟩=some (i64 (n:Int))/\w'.cell? ⟨X,2,none⟩=some (.slice x.ua us.length x.uc)/\w'.cell? ⟨X,3,none⟩=some (i64 (k:Int))) (λw'=>True) (λi=>false) ax (⟨k0,k1,k2,k3,k4,k5,k6,k7,H4,H5,H6⟩) (trivial) (λaD ai=> ?_);refine aJ 0 aD ai ?_;refine aJ 1 aD ai ?_ (v:=i64 (k:Int));refine aJ 2 aD ai ?_ (v:= .agg (C8 c));refine aJ 3 aD ai ?_;refine aJ 4 aD ai ?_ (v:=i64 (n:Int));refine aJ 5 aD ai ?_;refine aJ 6 aD ai ?_;refine eI 7 rfl (λKc hK=> ?_);go_simp;refine (Zz.o w3.drew HX.o.drew).mono ?_;rintro e z1 ⟨rfl,xz⟩;refine hK.o _ _ (⟨aC ((Ext.refl w3).drew.trans xz) k0,aC ((Ext.refl w3).drew.trans xz) k1,aC ((Ext.refl w3).drew.trans xz) k2,aC ((Ext.refl w3).drew.trans xz) k3,aC ((Ext.refl w3).drew.trans xz) k4,aC ((Ext.refl w3).drew.trans xz) k5,aC ((Ext.refl w3).drew.trans xz) k6,aC ((Ext.refl w3).drew.trans xz) k7,aC ((Ext.refl w3).drew.trans xz) H4,aC ((Ext.refl w3).drew.trans xz) H5,aC ((Ext.refl w3).drew.trans xz) H6⟩) (trivial) (λaD ai=> ?_);clear hK Kc;try simp only [sS]
   refine aJ 8 aD ai ?_;refine aI ax ?_ _;clear aD ai;have HQ:Hid (ve=72):=by show _=_;rw [zk.o];rw [TR.o,decide_eq_false ae,Bool.and_false];rfl
   go_wp2
   go_ret;exact ⟨by rw [HQ.o];rfl,HX.o.trans ((Ext.refl w3).drew.trans xz)⟩
  .have tg:decide ((gr:Int)<(k:Int))=false:=by simp;omega
   go_wp2_with fail
   refine aO (λw'=>w'.cell? ⟨B,0,none⟩=some (i64 c.hours)/\w'.cell? ⟨B,1,none⟩=some (.slice c.ra c.aX.length c.rc)/\w'.cell? ⟨B,2,none⟩=some (.slice c.ba c.aF.length c.bc)/\w'.cell? ⟨B,3,none⟩=some (.slice c.la c.lines.length c.lc)/\w'.cell? ⟨B,4,none⟩=some (.slice c.ua c.aA.length c.uc)/\w'.cell? ⟨B,5,none⟩=some (.slice c.sa c.stores.length c.sc)/\w'.cell? ⟨B,6,none⟩=some (.slice c.ta c.bh.length c.tc)/\w'.cell? ⟨B,7,none⟩=some (.slice c.oa c.outs.length c.oc)/\w'.cell? ⟨X,1,none⟩=some (i64 (n:Int))/\w'.cell? ⟨X,2,none⟩=some (.slice x.ua us.length x.uc)/\w'.cell? ⟨X,3,none⟩=some (i64 (k:Int))) (λw'=>True) (λi=>false) ax (⟨k0,k1,k2,k3,k4,k5,k6,k7,H4,H5,H6⟩) (trivial) (λaD ai=> ?_);refine aJ 0 aD ai ?_;refine aJ 1 aD ai ?_ (v:=i64 (k:Int));refine aJ 2 aD ai ?_ (v:= .agg (C8 c));refine aJ 3 aD ai ?_;refine aJ 4 aD ai ?_ (v:=i64 (n:Int));refine aJ 5 aD ai ?_;refine aJ 6 aD ai ?_;refine eI 7 rfl (λKc hK=> ?_);go_simp;refine (Zz.o w3.drew HX.o.drew).mono ?_;rintro e z1 ⟨rfl,xz⟩;refine hK.o _ _ (⟨aC ((Ext.refl w3).drew.trans xz) k0,aC ((Ext.refl w3).drew.trans xz) k1,aC ((Ext.refl w3).drew.trans xz) k2,aC ((Ext.refl w3).drew.trans xz) k3,aC ((Ext.refl w3).drew.trans xz) k4,aC ((Ext.refl w3).drew.trans xz) k5,aC ((Ext.refl w3).drew.trans xz) k6,aC ((Ext.refl w3).drew.trans xz) k7,aC ((Ext.refl w3).drew.trans xz) H4,aC ((Ext.refl w3).drew.trans xz) H5,aC ((Ext.refl w3).drew.trans xz) H6⟩) (trivial) (λaD ai=> ?_);clear hK Kc;try simp only [sS]
   refine aJ 8 aD ai ?_;refine aI ax ?_ _;clear aD ai;have HQ:Hid (ve=0):=by show _=_;rw [zk.o];rw [HF.o,TR.o,decide_eq_true ae];rfl
   go_wp2
   go_ret;exact ⟨by rw [HQ.o];rfl,HX.o.trans ((Ext.refl w3).drew.trans xz)⟩
 .have tk:(x.kind==0)=false:=by simpa using hk
  obtain ⟨-,g1,g2,g3⟩:=Gx HF.o hk
  have TR:Hid (pk c x=((x.length==0)||decide (x.length<MJ c x.unit.toNat))):=by
   show _=_;rw [HVC.o,if_neg hk]
  obtain ⟨u,hu⟩: ∃u:Nat,x.unit=(u:Int):=⟨x.unit.toNat,ae⟩;have ue:u<c.aA.length:=ae;obtain ⟨ub,uo,hua,-,-,-,-,-,-,-,-,-,-,ZA,-⟩:=(eT.o.aA.ext HX.o).aA u ue
  have HUP:Hid (MJ c x.unit.toNat=c.aA[u].eK):=by
   show _=_;unfold MJ;rw [hu,Int.toNat_natCast,List.getElem?_eq_getElem ue];rfl
  obtain ⟨up,hup⟩: ∃up,up=c.aA[u].eK:=⟨_,rfl⟩;rw [<-hup]at ZA HUP;rw [hu]at JN;rw [hua]at k4;have HUA:=ah hua;have bu0:(0:Int)<=(u:Int):=ae;have bu1:(u:Int)<(c.aA.length:Int):=ae;have huc:=eT.o.aA.cap;have SI:=eT.o.aA.le
  rw [List.length_map]at SI;clear hu ue hua hup;clear hk g1 g2 g3;by_cases hz:x.length=0
  .have HZ:=ah hz
   have tz:(x.length !=0)=false:=by rw [hz];rfl
   clear hz;go_wp2_with fail
   refine aO (λw'=>w'.cell? ⟨B,4,none⟩=some (.slice (some ⟨ub,uo,none⟩) c.aA.length c.uc)/\w'.cell? ⟨X,4,none⟩=some (i64 (u:Int))/\w'.cell? ⟨X,5,none⟩=some (i64 x.length)/\w'.cell? ⟨ub,uo+u*22+10,none⟩=some (i64 up)) (λw'=>True) (λi=>false) ax (⟨k4,JN,Kp,ZA⟩) (trivial) (λaD ai=> ?_);refine aJ 0 aD ai ?_;refine aJ 1 aD ai ?_ (v:=i64 x.length);refine aJ 2 aD ai ?_;refine aJ 3 aD ai ?_;refine tF 4 aD ai ?_;refine tF 5 aD ai ?_;refine tF 6 aD ai ?_;refine tF 7 aD ai ?_;refine tF 8 aD ai ?_;refine tF 9 aD ai ?_;refine tF 10 aD ai ?_;refine tF 11 aD ai ?_;refine tF 12 aD ai ?_;refine tF 13 aD ai ?_;refine aJ 14 aD ai ?_;refine aI ax ?_ _;clear aD ai;have HQ:Hid (ve=0):=by show _=_;rw [zk.o];rw [HF.o,TR.o,HZ.o];rfl
   go_wp2
   go_ret;exact ⟨by rw [HQ.o];rfl,HX.o.drew⟩
  .have tz:(x.length !=0)=true:=by simpa using hz
   have HZ:Hid ((x.length==0)=false):=by show _=_;simpa using hz
   clear hz;by_cases hu:up<=x.length
   .have tu:decide (up<=x.length)=true:=by simpa using hu
    have HU:Hid (decide (x.length<up)=false):=by show _=_;simp;omega
    clear hu;go_wp2_with fail
    refine aO (λw'=>w'.cell? ⟨B,4,none⟩=some (.slice (some ⟨ub,uo,none⟩) c.aA.length c.uc)/\w'.cell? ⟨X,4,none⟩=some (i64 (u:Int))/\w'.cell? ⟨X,5,none⟩=some (i64 x.length)/\w'.cell? ⟨ub,uo+u*22+10,none⟩=some (i64 up)) (λw'=>True) (λi=>false) ax (⟨k4,JN,Kp,ZA⟩) (trivial) (λaD ai=> ?_);refine aJ 0 aD ai ?_;refine aJ 1 aD ai ?_ (v:=i64 x.length);refine aJ 2 aD ai ?_;refine aJ 3 aD ai ?_;refine aJ 4 aD ai ?_;refine aJ 5 aD ai ?_ (v:=i64 x.length);refine aJ 6 aD ai ?_;refine aJ 7 aD ai ?_;refine aJ 8 aD ai ?_;refine aJ 9 aD ai ?_ (v:=i64 (u:Int));refine aJ 10 aD ai ?_;refine aJ 11 aD ai ?_;refine aJ 12 aD ai ?_ (v:=i64 up);refine aJ 13 aD ai ?_;refine aJ 14 aD ai ?_;refine aI ax ?_ _;clear aD ai;have HQ:Hid (ve=72):=by show _=_;rw [zk.o];rw [TR.o,HZ.o,HUP.o,HU.o,Bool.false_or,Bool.and_false];rfl
    go_wp2
    go_ret;exact ⟨by rw [HQ.o];rfl,HX.o.drew⟩
   .have tu:decide (up<=x.length)=false:=by simpa using hu
    have HU:Hid (decide (x.length<up)=true):=by show _=_;simp;omega
    clear hu;go_wp2_with fail
    refine aO (λw'=>w'.cell? ⟨B,4,none⟩=some (.slice (some ⟨ub,uo,none⟩) c.aA.length c.uc)/\w'.cell? ⟨X,4,none⟩=some (i64 (u:Int))/\w'.cell? ⟨X,5,none⟩=some (i64 x.length)/\w'.cell? ⟨ub,uo+u*22+10,none⟩=some (i64 up)) (λw'=>True) (λi=>false) ax (⟨k4,JN,Kp,ZA⟩) (trivial) (λaD ai=> ?_);refine aJ 0 aD ai ?_;refine aJ 1 aD ai ?_ (v:=i64 x.length);refine aJ 2 aD ai ?_;refine aJ 3 aD ai ?_;refine aJ 4 aD ai ?_;refine aJ 5 aD ai ?_ (v:=i64 x.length);refine aJ 6 aD ai ?_;refine aJ 7 aD ai ?_;refine aJ 8 aD ai ?_;refine aJ 9 aD ai ?_ (v:=i64 (u:Int));refine aJ 10 aD ai ?_;refine aJ 11 aD ai ?_;refine aJ 12 aD ai ?_ (v:=i64 up);refine aJ 13 aD ai ?_;refine aJ 14 aD ai ?_;refine aI ax ?_ _;clear aD ai;have HQ:Hid (ve=0):=by show _=_;rw [zk.o];rw [HF.o,TR.o,HZ.o,HUP.o,HU.o];rfl
    go_wp2
    go_ret;exact ⟨by rw [HQ.o];rfl,HX.o.drew⟩
