/- Texts of the proof. -/
import Derived.Test.YtkpngkdgphojlaaGreatCc13
import Derived.Test.YtkpngkdgphojlaaGreatCc16
import Derived.Test.YtkpngkdgphojlaaGreatCc17
set_option linter.all false
namespace Go.Proofs.YtkpngkdgphojlaaGreat
open Go.RowKit
def uR (c:aq) (u:Nat):Int:=(c.aj[u]?.map aF.bQ).getD 0
def fW (c:aq) (x:cq):Bool:=if x.kind=0 then decide (x.least≤fw c x.hour.toNat (x.aj.map Int.toNat))else(x.length==0)||decide (x.length<uR c x.unit.toNat)
noncomputable def fz (c:aq) (x:cq):Int:=if bT c≠0 then bT c else if(cQ c x&&fW c x)=true then 0 else 72
noncomputable def kP (c:aq) (hour:Int) (l:List Int):Int×Int:=if bT c≠0 then(0,bT c)else if eN c hour=false then(0,12)else if gR c.aj.length l=false then(0,72)else(fw c hour.toNat (l.map Int.toNat),0)
theorem fK (us:List Nat):(aC us).map Int.toNat=us:=by
 unfold aC;rw [List.map_map]
 have:(Int.toNat∘fun(j:Nat)=>(j:Int))=id:=by funext j;simp
 rw [this,List.map_id]
theorem py {n:Nat} {l:List Int} (h:gR n l=true): ∃us:List Nat,l=aC us∧dQ n us∧0<us.length:=by
 unfold gR at h;rw [Bool.and_eq_true,decide_eq_true_eq]at h;obtain ⟨us,h1,h2⟩:=Gq h.1;refine ⟨us,h1,h2,?_⟩;have:=h.2;rw [h1,aK]at this;exact this
theorem lD {c:aq} {h:Int} (e:eN c h=true): ∃n:Nat,h=(n:Int)∧(n:Int)<c.hours:=by
 unfold eN at e;rw [Bool.and_eq_true,decide_eq_true_eq,decide_eq_true_eq]at e;exact ⟨h.toNat,by omega,by omega⟩
theorem j_ {c:aq} {x:cq} (h:cQ c x=true) (hk:x.kind=0): ∃(n k:Nat) (us:List Nat),x.hour=(n:Int)∧(n:Int)<c.hours∧x.aj=aC us∧dQ c.aj.length us∧0<us.length∧x.least=(k:Int)∧1≤k∧k≤us.length:=by
 unfold cQ at h;rw [if_pos hk]at h;simp only [Bool.and_eq_true,decide_eq_true_eq]at h;obtain ⟨hh,⟨⟨⟨h1,h2⟩,h3⟩,h4⟩,h5⟩:=h;obtain ⟨n,e1,e2⟩:=lD hh;obtain ⟨us,u1,u2,u3⟩:=py h1;rw [u1,aK]at h3;exact ⟨n,x.least.toNat,us,e1,e2,u1,u2,u3,by omega,by omega,by omega⟩
theorem tT {c:aq} {x:cq} (h:cQ c x=true) (hk:x.kind≠0):x.kind=1∧0≤x.unit∧x.unit<c.aj.length∧0≤x.length:=by
 unfold cQ at h;rw [if_neg hk]at h;by_cases h1:x.kind=1
 ·rw [if_pos h1]at h
  simp only [Bool.and_eq_true,decide_eq_true_eq]at h;obtain ⟨_,⟨⟨⟨⟨a,b⟩,d⟩,_⟩,_⟩,_⟩:=h;exact ⟨h1,a,b,d⟩
 ·rw [if_neg h1,Bool.and_false]at h;cases h
set_option maxHeartbeats 1000000 in
set_option maxRecDepth 100000 in
theorem MS (w0 V:World) (c:aq) (x:cq) (hV:Ext w0 V) (hc:aT w0 c) (eR:eZ c) (hI:aA V x.ua x.uc x.aj):
 Calls Tryz.prog 45 #[.agg (C8 c),.agg #[i64 x.kind,i64 x.hour,.slice x.ua x.aj.length x.uc,i64 x.least,i64 x.unit,i64 x.length]] V fun e w'=>e= .returned (.bool (cQ c x&&fW c x))∧Ext V w':=by
 try unfold C8
 have dB:=ae (hc.ext hV);have HI:=ae hI;have HV:=ae hV;have HC0:=ae hc;have ky:=ae eR
 have jV:c.aj.length≤9223372036854775807:=by have:=eR.frame.aj;omega
 have Ow:Hid (fW c x=if x.kind=0 then decide (x.least≤fw c x.hour.toNat (x.aj.map Int.toNat))else(x.length==0)||decide (x.length<uR c x.unit.toNat)):=rfl;obtain ⟨rb,xR⟩: ∃rb,rb=(cQ c x&&fW c x):=⟨_,rfl⟩;have ES:=ae xR;rw [←xR];clear hc eR hI hV xR;go_enter Tryz.func45,Tryz.ntmps45
 go_upto_region 1 with fail
 obtain ⟨W,hW,x0,Z0,A0,A1⟩:=fP V 32 c.cells 24 x.cells;rw [show(V.alloc (.cells (C8 c) 32)).alloc (.cells #[i64 x.kind,i64 x.hour,.slice x.ua x.aj.length x.uc,i64 x.least,i64 x.unit,i64 x.length] 24)=W from hW.symm];obtain ⟨B,hB⟩: ∃B,B=V.heap.size:=⟨_,rfl⟩;obtain ⟨X,hX⟩: ∃X,X=V.heap.size+1:=⟨_,rfl⟩;rw [←hX]at A1⊢;rw [←hB]at A0⊢;have HX:=ae x0;have HA:=ae A0;have HB:=ae A1
 clear hW x0 Z0 A0 A1 hB hX;obtain ⟨k0,k1,k2,k3,k4,k5,k6,k7⟩:=aq.at HA.out;obtain ⟨xS,sA,sB,sD,rT,tO⟩:=cq.at HB.out;have DW:=ae (yV W c x (HI.out.ext HX.out) jV);clear jV;go_wp2_with fail
 refine DW.out.mono ?_;rintro e w1 ⟨rfl,xx⟩;clear k0 k1 k2 k3 k4 k5 k6 k7 xS sA sB sD rT tO;have HA:=ae (HA.out.ext xx);have HB:=ae (HB.out.ext xx);have HX:=ae (HX.out.trans xx)
 clear xx;obtain ⟨k0,k1,k2,k3,k4,k5,k6,k7⟩:=aq.at HA.out;obtain ⟨xS,sA,sB,sD,rT,tO⟩:=cq.at HB.out;clear DW;rcases Bool.eq_false_or_eq_true (cQ c x)with hf|hf;rotate_left
 ·rw [hf]
  have HQ:Hid (rb=false):=by show _=_;rw [ES.out,hf];rfl
  clear hf;go_wp2_with fail
  go_ret;exact ⟨by rw [HQ.out];rfl,HX.out⟩
 rw [hf];have HF:=ae hf;clear hf;by_cases hk:x.kind=0
 ·obtain ⟨n,k,us,e1,e2,e3,e4,e5,e6,e7,e8⟩:=j_ HF.out hk
  have HQ:Hid (decide (k≤fw c n us)=rb):=by
   show _=_;rw [ES.out,HF.out,Bool.true_and,Ow.out,if_pos hk,e6,e1,e3,fK,Int.toNat_natCast];rw [Bool.eq_iff_iff];simp
  have tk:(x.kind==0)=true:=by rw [hk];rfl
  have Ox:=(HI.out.ext HX.out);have nQ:x.aj.length=us.length:=by rw [e3,aK]
  rw [e3]at Ox;rw [e1]at sA;rw [e6]at sD;rw [nQ]at sB;have JK:=ae (tN w0 w1 c n us x.ua x.uc k (HV.out.trans HX.out) HC0.out ky.out e2 e4 e7 e8 Ox);generalize fw c n us=gr at*;clear hk e1 e2 e3 e4 e5 e6 e7 e8 Ox nQ;go_wp2_with fail
  refine JK.out.mono ?_;rintro e w2 ⟨rfl,xx⟩;go_wp2_with fail
  go_ret;exact ⟨by rw [←HQ.out];rfl,HX.out.trans xx⟩
 ·have tk:(x.kind==0)=false:=by simpa using hk
  obtain ⟨-,g1,g2,g3⟩:=tT HF.out hk
  have HQ:Hid (rb=((x.length==0)||decide (x.length<uR c x.unit.toNat))):=by
   show _=_;rw [ES.out,HF.out,Bool.true_and,Ow.out,if_neg hk]
  obtain ⟨u,hu⟩: ∃u:Nat,x.unit=(u:Int):=⟨x.unit.toNat,by omega⟩;have jV:u<c.aj.length:=by omega
  obtain ⟨ub,uo,MT,-,-,-,-,-,-,-,-,-,-,K5,-⟩:=(dB.out.aj.ext HX.out).aj u jV
  have Oy:Hid (uR c x.unit.toNat=c.aj[u].bQ):=by
   show _=_;unfold uR;rw [hu,Int.toNat_natCast,List.getElem?_eq_getElem jV];rfl
  obtain ⟨up,Qk⟩: ∃up,up=c.aj[u].bQ:=⟨_,rfl⟩;rw [←Qk]at K5 Oy;rw [hu]at rT;rw [MT]at k4;have HUA:=ae MT;have XW:(0:Int)≤(u:Int):=by omega
  have XX:(u:Int)<(c.aj.length:Int):=by omega
  have huc:=dB.out.aj.cap;have MU:=dB.out.aj.le
  rw [List.length_map]at MU;clear hu jV MT Qk;clear hk g1 g2 g3;by_cases hz:x.length=0
  ·have j4:Hid (rb=true):=by show _=_;rw [HQ.out,hz];rfl
   have tz:(x.length==0)=true:=by rw [hz];rfl
   clear hz;go_wp2_with fail
   refine ay (fun w'=>w'.cell? ⟨B,4,none⟩=some (.slice (some ⟨ub,uo,none⟩) c.aj.length c.uc)∧w'.cell? ⟨X,4,none⟩=some (i64 (u:Int))∧w'.cell? ⟨X,5,none⟩=some (i64 x.length)∧w'.cell? ⟨ub,uo+u*22+10,none⟩=some (i64 up)) (fun w'=>True) (fun i=>false) (by kernel_rfl) (⟨k4,rT,tO,K5⟩) (trivial) (fun ar ah=> ?_);refine av 0 (.pointer (some ⟨X,5,none⟩)) rfl ar ah ?_;simp only [sS];refine av 1 (i64 x.length) rfl ar ah ?_;simp only [sS];refine av 2 (.bool true) rfl ar ah ?_;simp only [sS];refine av 3 (.bool true) rfl ar ah ?_;simp only [sS];refine cA 4 rfl ar ah ?_;simp only [sS];refine cA 5 rfl ar ah ?_;simp only [sS];refine cA 6 rfl ar ah ?_;simp only [sS];refine cA 7 rfl ar ah ?_;simp only [sS];refine cA 8 rfl ar ah ?_;simp only [sS];refine cA 9 rfl ar ah ?_;simp only [sS];refine cA 10 rfl ar ah ?_;simp only [sS];refine cA 11 rfl ar ah ?_;simp only [sS];refine cA 12 rfl ar ah ?_;simp only [sS];refine cA 13 rfl ar ah ?_;simp only [sS];refine av 14 (.bool true) rfl ar ah ?_;simp only [sS];refine av 15 (.bool true) rfl ar ah ?_;simp only [sS];refine ax (by kernel_rfl) ?_ _;clear ar ah;go_wp2_with fail
   go_ret;exact ⟨by rw [j4.out];rfl,HX.out.drew⟩
  ·have tz:(x.length==0)=false:=by simpa using hz
   have j4:Hid (rb=decide (x.length<up)):=by show _=_;rw [HQ.out,tz,Bool.false_or,Oy.out]
   clear hz;go_wp2_with fail
   refine ay (fun w'=>w'.cell? ⟨B,4,none⟩=some (.slice (some ⟨ub,uo,none⟩) c.aj.length c.uc)∧w'.cell? ⟨X,4,none⟩=some (i64 (u:Int))∧w'.cell? ⟨X,5,none⟩=some (i64 x.length)∧w'.cell? ⟨ub,uo+u*22+10,none⟩=some (i64 up)) (fun w'=>True) (fun i=>false) (by kernel_rfl) (⟨k4,rT,tO,K5⟩) (trivial) (fun ar ah=> ?_);refine av 0 (.pointer (some ⟨X,5,none⟩)) rfl ar ah ?_;simp only [sS];refine av 1 (i64 x.length) rfl ar ah ?_;simp only [sS];refine av 2 (.bool false) rfl ar ah ?_;simp only [sS];refine av 3 (.bool false) rfl ar ah ?_;simp only [sS];refine av 4 (.pointer (some ⟨X,5,none⟩)) rfl ar ah ?_;simp only [sS];refine av 5 (i64 x.length) rfl ar ah ?_;simp only [sS];refine av 6 (.pointer (some ⟨B,4,none⟩)) rfl ar ah ?_;simp only [sS];refine av 7 (.slice (some ⟨ub,uo,none⟩) c.aj.length c.uc) rfl ar ah ?_;simp only [sS];refine av 8 (.pointer (some ⟨X,4,none⟩)) rfl ar ah ?_;simp only [sS];refine av 9 (i64 (u:Int)) rfl ar ah ?_;simp only [sS];refine av 10 (.pointer (some ⟨ub,uo+u*22,none⟩)) rfl ar ah ?_;simp only [sS];refine av 11 (.pointer (some ⟨ub,uo+u*22+10,none⟩)) rfl ar ah ?_;simp only [sS];refine av 12 (i64 up) rfl ar ah ?_;simp only [sS];refine av 13 (.bool (decide (x.length<up))) rfl ar ah ?_;simp only [sS];refine av 14 (.bool (decide (x.length<up))) rfl ar ah ?_;simp only [sS];refine av 15 (.bool (decide (x.length<up))) rfl ar ah ?_;simp only [sS];refine ax (by kernel_rfl) ?_ _;clear ar ah;go_wp2_with fail
   go_ret;exact ⟨by rw [j4.out];rfl,HX.out.drew⟩
set_option maxHeartbeats 1000000 in
set_option maxRecDepth 100000 in
theorem pz (V:World) (c:aq) (x:cq) (hc:aT V c) (hl:nN c) (hI:aA V x.ua x.uc x.aj):
 Calls Tryz.prog 15 #[.agg (C8 c),.agg #[i64 x.kind,i64 x.hour,.slice x.ua x.aj.length x.uc,i64 x.least,i64 x.unit,i64 x.length]] V fun e w'=>e= .returned (i64 (fz c x))∧Ext V w':=by
 try unfold C8
 have dB:=ae hc;have HI:=ae hI;have kW:=ae hl
 have jV:c.aj.length≤9223372036854775807:=by have:=hl.aj;omega
 have xg:Hid (fz c x=if bT c≠0 then bT c else if(cQ c x&&fW c x)=true then 0 else 72):=rfl;have Ow:Hid (fW c x=if x.kind=0 then decide (x.least≤fw c x.hour.toNat (x.aj.map Int.toNat))else(x.length==0)||decide (x.length<uR c x.unit.toNat)):=rfl;have ox:Hid (bT c=0→eZ c):=kJ;obtain ⟨ce,hce⟩: ∃ce,ce=bT c:=⟨_,rfl⟩;rw [←hce]at xg ox;obtain ⟨ve,GV⟩: ∃ve,ve=fz c x:=⟨_,rfl⟩;rw [←GV]at xg⊢;have Br:=ae hce;clear hc hI hl hce GV;go_enter Tryz.func15,Tryz.ntmps15
 go_upto_region 1 with fail
 obtain ⟨W,hW,x0,Z0,A0,A1⟩:=fP V 32 c.cells 24 x.cells;rw [show(V.alloc (.cells (C8 c) 32)).alloc (.cells #[i64 x.kind,i64 x.hour,.slice x.ua x.aj.length x.uc,i64 x.least,i64 x.unit,i64 x.length] 24)=W from hW.symm];obtain ⟨B,hB⟩: ∃B,B=V.heap.size:=⟨_,rfl⟩;obtain ⟨X,hX⟩: ∃X,X=V.heap.size+1:=⟨_,rfl⟩;rw [←hX]at A1⊢;rw [←hB]at A0⊢;have HX:=ae x0;have HA:=ae A0;have HB:=ae A1
 clear hW x0 Z0 A0 A1 hB hX;obtain ⟨k0,k1,k2,k3,k4,k5,k6,k7⟩:=aq.at HA.out;obtain ⟨xS,sA,sB,sD,rT,tO⟩:=cq.at HB.out;go_wp2_with fail
 refine (zl W c (dB.out.ext HX.out) kW.out).mono ?_;rintro e w1 ⟨ek,ei,ef,rfl,xx⟩;go_upto_region 2 with fail
 obtain ⟨W2,hW2,x2,Z2,A2⟩:=aB w1 52 [i64 ek,i64 ei,i64 ef];rw [show w1.alloc (.cells #[i64 ek,i64 ei,i64 ef] 52)=W2 from hW2.symm];clear hW2 Z2 A2;rw [←Br.out];clear k0 k1 k2 k3 k4 k5 k6 k7 xS sA sB sD rT tO;have HA:=ae (HA.out.ext (xx.trans x2));have HB:=ae (HB.out.ext (xx.trans x2));have HX:=ae (HX.out.trans (xx.trans x2))
 clear xx x2;obtain ⟨k0,k1,k2,k3,k4,k5,k6,k7⟩:=aq.at HA.out;obtain ⟨xS,sA,sB,sD,rT,tO⟩:=cq.at HB.out;by_cases hz:ce=0
 rotate_left
 ·have HQ:Hid (ve=ce):=by show _=_;rw [xg.out,if_pos hz]
  have tz:(ce !=0)=true:=by simpa using hz
  clear hz;go_wp2_with fail
  go_ret;exact ⟨by rw [HQ.out];rfl,HX.out⟩
 have tz:(ce !=0)=false:=by simpa using hz
 have eR:=ox.out hz;have lZ:Hid (ve=if(cQ c x&&fW c x)=true then 0 else 72):=by show _=_;rw [xg.out,if_neg (fun e=>e hz)]
 have ky:=ae eR;clear hz eR ox;have DW:=ae (DO W2 c x (HI.out.ext HX.out) jV);clear jV;go_wp2_with fail
 refine DW.out.mono ?_;rintro e w3 ⟨rfl,xx⟩;clear k0 k1 k2 k3 k4 k5 k6 k7 xS sA sB sD rT tO;have HA:=ae (HA.out.ext xx);have HB:=ae (HB.out.ext xx);have HX:=ae (HX.out.trans xx)
 clear xx;obtain ⟨k0,k1,k2,k3,k4,k5,k6,k7⟩:=aq.at HA.out;obtain ⟨xS,sA,sB,sD,rT,tO⟩:=cq.at HB.out;clear DW;rcases Bool.eq_false_or_eq_true (cQ c x)with hf|hf;rotate_left
 ·rw [hf]
  have HQ:Hid (ve=72):=by show _=_;rw [lZ.out];rw [hf];rfl
  go_wp2_with fail
  go_ret;exact ⟨by rw [HQ.out];rfl,HX.out⟩
 rw [hf];have HF:=ae hf;clear hf;by_cases hk:x.kind=0
 ·obtain ⟨n,k,us,e1,e2,e3,e4,e5,e6,e7,e8⟩:=j_ HF.out hk
  have sw:Hid (fW c x=decide (k≤fw c n us)):=by
   show _=_;rw [Ow.out,if_pos hk,e6,e1,e3,fK,Int.toNat_natCast];rw [Bool.eq_iff_iff];simp
  have tk:(x.kind==0)=true:=by rw [hk];rfl
  have nQ:x.aj.length=us.length:=by rw [e3,aK]
  rw [e1]at sA;rw [e6]at sD;rw [nQ]at sB
  have IL:Hid (∀U,Ext V U→Calls Tryz.prog 40 #[.agg (C8 c),.int .i64 (n:Int),.slice x.ua us.length x.uc] U fun e w'=>e= .returned (i64 ((fw c n us:Nat):Int))∧Ext U w'):=fun U hU=>by
   have Ox:=(HI.out.ext hU);rw [e3]at Ox;exact ri V U c n us x.ua x.uc hU dB.out ky.out e2 e4 e5 Ox
  generalize fw c n us=gr at*;clear hk e1 e2 e3 e4 e5 e6 e7 e8 nQ;by_cases hg:gr<k
  ·have tg:decide ((gr:Int)<(k:Int))=true:=by simp;omega
   go_wp2_with fail
   refine ay (fun w'=>w'.cell? ⟨B,0,none⟩=some (i64 c.hours)∧w'.cell? ⟨B,1,none⟩=some (.slice c.ra c.az.length c.rc)∧w'.cell? ⟨B,2,none⟩=some (.slice c.ba c.au.length c.bc)∧w'.cell? ⟨B,3,none⟩=some (.slice c.la c.lines.length c.lc)∧w'.cell? ⟨B,4,none⟩=some (.slice c.ua c.aj.length c.uc)∧w'.cell? ⟨B,5,none⟩=some (.slice c.sa c.stores.length c.sc)∧w'.cell? ⟨B,6,none⟩=some (.slice c.ta c.aN.length c.tc)∧w'.cell? ⟨B,7,none⟩=some (.slice c.oa c.outs.length c.oc)∧w'.cell? ⟨X,1,none⟩=some (i64 (n:Int))∧w'.cell? ⟨X,2,none⟩=some (.slice x.ua us.length x.uc)∧w'.cell? ⟨X,3,none⟩=some (i64 (k:Int))) (fun w'=>True) (fun i=>false) (by kernel_rfl) (⟨k0,k1,k2,k3,k4,k5,k6,k7,sA,sB,sD⟩) (trivial) (fun ar ah=> ?_);refine av 0 (.pointer (some ⟨X,3,none⟩)) rfl ar ah ?_;simp only [sS];refine av 1 (i64 (k:Int)) rfl ar ah ?_;simp only [sS];refine av 2 (.agg #[i64 c.hours,.slice c.ra c.az.length c.rc,.slice c.ba c.au.length c.bc,.slice c.la c.lines.length c.lc,.slice c.ua c.aj.length c.uc,.slice c.sa c.stores.length c.sc,.slice c.ta c.aN.length c.tc,.slice c.oa c.outs.length c.oc]) rfl ar ah ?_;simp only [sS];refine av 3 (.pointer (some ⟨X,1,none⟩)) rfl ar ah ?_;simp only [sS];refine av 4 (i64 (n:Int)) rfl ar ah ?_;simp only [sS];refine av 5 (.pointer (some ⟨X,2,none⟩)) rfl ar ah ?_;simp only [sS];refine av 6 (.slice x.ua us.length x.uc) rfl ar ah ?_;simp only [sS];refine cG 7 rfl (fun Kc hK=> ?_);go_simp;refine (IL.out w3.drew HX.out.drew).mono ?_;rintro e z1 ⟨rfl,xz⟩;refine hK.out _ _ (⟨ai ((Ext.refl w3).drew.trans xz) k0,ai ((Ext.refl w3).drew.trans xz) k1,ai ((Ext.refl w3).drew.trans xz) k2,ai ((Ext.refl w3).drew.trans xz) k3,ai ((Ext.refl w3).drew.trans xz) k4,ai ((Ext.refl w3).drew.trans xz) k5,ai ((Ext.refl w3).drew.trans xz) k6,ai ((Ext.refl w3).drew.trans xz) k7,ai ((Ext.refl w3).drew.trans xz) sA,ai ((Ext.refl w3).drew.trans xz) sB,ai ((Ext.refl w3).drew.trans xz) sD⟩) (trivial) (fun ar ah=> ?_);clear hK Kc;try simp only [sS]
   refine av 8 (.bool true) rfl ar ah ?_;simp only [sS];refine ax (by kernel_rfl) ?_ _;clear ar ah;have HQ:Hid (ve=72):=by show _=_;rw [lZ.out];rw [sw.out,decide_eq_false (by omega),Bool.and_false];rfl
   go_wp2_with fail
   go_ret;exact ⟨by rw [HQ.out];rfl,HX.out.trans ((Ext.refl w3).drew.trans xz)⟩
  ·have tg:decide ((gr:Int)<(k:Int))=false:=by simp;omega
   go_wp2_with fail
   refine ay (fun w'=>w'.cell? ⟨B,0,none⟩=some (i64 c.hours)∧w'.cell? ⟨B,1,none⟩=some (.slice c.ra c.az.length c.rc)∧w'.cell? ⟨B,2,none⟩=some (.slice c.ba c.au.length c.bc)∧w'.cell? ⟨B,3,none⟩=some (.slice c.la c.lines.length c.lc)∧w'.cell? ⟨B,4,none⟩=some (.slice c.ua c.aj.length c.uc)∧w'.cell? ⟨B,5,none⟩=some (.slice c.sa c.stores.length c.sc)∧w'.cell? ⟨B,6,none⟩=some (.slice c.ta c.aN.length c.tc)∧w'.cell? ⟨B,7,none⟩=some (.slice c.oa c.outs.length c.oc)∧w'.cell? ⟨X,1,none⟩=some (i64 (n:Int))∧w'.cell? ⟨X,2,none⟩=some (.slice x.ua us.length x.uc)∧w'.cell? ⟨X,3,none⟩=some (i64 (k:Int))) (fun w'=>True) (fun i=>false) (by kernel_rfl) (⟨k0,k1,k2,k3,k4,k5,k6,k7,sA,sB,sD⟩) (trivial) (fun ar ah=> ?_);refine av 0 (.pointer (some ⟨X,3,none⟩)) rfl ar ah ?_;simp only [sS];refine av 1 (i64 (k:Int)) rfl ar ah ?_;simp only [sS];refine av 2 (.agg #[i64 c.hours,.slice c.ra c.az.length c.rc,.slice c.ba c.au.length c.bc,.slice c.la c.lines.length c.lc,.slice c.ua c.aj.length c.uc,.slice c.sa c.stores.length c.sc,.slice c.ta c.aN.length c.tc,.slice c.oa c.outs.length c.oc]) rfl ar ah ?_;simp only [sS];refine av 3 (.pointer (some ⟨X,1,none⟩)) rfl ar ah ?_;simp only [sS];refine av 4 (i64 (n:Int)) rfl ar ah ?_;simp only [sS];refine av 5 (.pointer (some ⟨X,2,none⟩)) rfl ar ah ?_;simp only [sS];refine av 6 (.slice x.ua us.length x.uc) rfl ar ah ?_;simp only [sS];refine cG 7 rfl (fun Kc hK=> ?_);go_simp;refine (IL.out w3.drew HX.out.drew).mono ?_;rintro e z1 ⟨rfl,xz⟩;refine hK.out _ _ (⟨ai ((Ext.refl w3).drew.trans xz) k0,ai ((Ext.refl w3).drew.trans xz) k1,ai ((Ext.refl w3).drew.trans xz) k2,ai ((Ext.refl w3).drew.trans xz) k3,ai ((Ext.refl w3).drew.trans xz) k4,ai ((Ext.refl w3).drew.trans xz) k5,ai ((Ext.refl w3).drew.trans xz) k6,ai ((Ext.refl w3).drew.trans xz) k7,ai ((Ext.refl w3).drew.trans xz) sA,ai ((Ext.refl w3).drew.trans xz) sB,ai ((Ext.refl w3).drew.trans xz) sD⟩) (trivial) (fun ar ah=> ?_);clear hK Kc;try simp only [sS]
   refine av 8 (.bool false) rfl ar ah ?_;simp only [sS];refine ax (by kernel_rfl) ?_ _;clear ar ah;have HQ:Hid (ve=0):=by show _=_;rw [lZ.out];rw [HF.out,sw.out,decide_eq_true (by omega)];rfl
   go_wp2_with fail
   go_ret;exact ⟨by rw [HQ.out];rfl,HX.out.trans ((Ext.refl w3).drew.trans xz)⟩
 ·have tk:(x.kind==0)=false:=by simpa using hk
  obtain ⟨-,g1,g2,g3⟩:=tT HF.out hk
  have sw:Hid (fW c x=((x.length==0)||decide (x.length<uR c x.unit.toNat))):=by
   show _=_;rw [Ow.out,if_neg hk]
  obtain ⟨u,hu⟩: ∃u:Nat,x.unit=(u:Int):=⟨x.unit.toNat,by omega⟩;have jV:u<c.aj.length:=by omega
  obtain ⟨ub,uo,MT,-,-,-,-,-,-,-,-,-,-,K5,-⟩:=(dB.out.aj.ext HX.out).aj u jV
  have Oy:Hid (uR c x.unit.toNat=c.aj[u].bQ):=by
   show _=_;unfold uR;rw [hu,Int.toNat_natCast,List.getElem?_eq_getElem jV];rfl
  obtain ⟨up,Qk⟩: ∃up,up=c.aj[u].bQ:=⟨_,rfl⟩;rw [←Qk]at K5 Oy;rw [hu]at rT;rw [MT]at k4;have HUA:=ae MT;have XW:(0:Int)≤(u:Int):=by omega
  have XX:(u:Int)<(c.aj.length:Int):=by omega
  have huc:=dB.out.aj.cap;have MU:=dB.out.aj.le
  rw [List.length_map]at MU;clear hu jV MT Qk;clear hk g1 g2 g3;by_cases hz:x.length=0
  ·have HZ:=ae hz
   have tz:(x.length !=0)=false:=by rw [hz];rfl
   clear hz;go_wp2_with fail
   refine ay (fun w'=>w'.cell? ⟨B,4,none⟩=some (.slice (some ⟨ub,uo,none⟩) c.aj.length c.uc)∧w'.cell? ⟨X,4,none⟩=some (i64 (u:Int))∧w'.cell? ⟨X,5,none⟩=some (i64 x.length)∧w'.cell? ⟨ub,uo+u*22+10,none⟩=some (i64 up)) (fun w'=>True) (fun i=>false) (by kernel_rfl) (⟨k4,rT,tO,K5⟩) (trivial) (fun ar ah=> ?_);refine av 0 (.pointer (some ⟨X,5,none⟩)) rfl ar ah ?_;simp only [sS];refine av 1 (i64 x.length) rfl ar ah ?_;simp only [sS];refine av 2 (.bool false) rfl ar ah ?_;simp only [sS];refine av 3 (.bool false) rfl ar ah ?_;simp only [sS];refine cA 4 rfl ar ah ?_;simp only [sS];refine cA 5 rfl ar ah ?_;simp only [sS];refine cA 6 rfl ar ah ?_;simp only [sS];refine cA 7 rfl ar ah ?_;simp only [sS];refine cA 8 rfl ar ah ?_;simp only [sS];refine cA 9 rfl ar ah ?_;simp only [sS];refine cA 10 rfl ar ah ?_;simp only [sS];refine cA 11 rfl ar ah ?_;simp only [sS];refine cA 12 rfl ar ah ?_;simp only [sS];refine cA 13 rfl ar ah ?_;simp only [sS];refine av 14 (.bool false) rfl ar ah ?_;simp only [sS];refine ax (by kernel_rfl) ?_ _;clear ar ah;have HQ:Hid (ve=0):=by show _=_;rw [lZ.out];rw [HF.out,sw.out,HZ.out];rfl
   go_wp2_with fail
   go_ret;exact ⟨by rw [HQ.out];rfl,HX.out.drew⟩
  ·have tz:(x.length !=0)=true:=by simpa using hz
   have HZ:Hid ((x.length==0)=false):=by show _=_;simpa using hz
   clear hz;by_cases hu:up≤x.length
   ·have tu:decide (up≤x.length)=true:=by simpa using hu
    have HU:Hid (decide (x.length<up)=false):=by show _=_;simp;omega
    clear hu;go_wp2_with fail
    refine ay (fun w'=>w'.cell? ⟨B,4,none⟩=some (.slice (some ⟨ub,uo,none⟩) c.aj.length c.uc)∧w'.cell? ⟨X,4,none⟩=some (i64 (u:Int))∧w'.cell? ⟨X,5,none⟩=some (i64 x.length)∧w'.cell? ⟨ub,uo+u*22+10,none⟩=some (i64 up)) (fun w'=>True) (fun i=>false) (by kernel_rfl) (⟨k4,rT,tO,K5⟩) (trivial) (fun ar ah=> ?_);refine av 0 (.pointer (some ⟨X,5,none⟩)) rfl ar ah ?_;simp only [sS];refine av 1 (i64 x.length) rfl ar ah ?_;simp only [sS];refine av 2 (.bool true) rfl ar ah ?_;simp only [sS];refine av 3 (.bool true) rfl ar ah ?_;simp only [sS];refine av 4 (.pointer (some ⟨X,5,none⟩)) rfl ar ah ?_;simp only [sS];refine av 5 (i64 x.length) rfl ar ah ?_;simp only [sS];refine av 6 (.pointer (some ⟨B,4,none⟩)) rfl ar ah ?_;simp only [sS];refine av 7 (.slice (some ⟨ub,uo,none⟩) c.aj.length c.uc) rfl ar ah ?_;simp only [sS];refine av 8 (.pointer (some ⟨X,4,none⟩)) rfl ar ah ?_;simp only [sS];refine av 9 (i64 (u:Int)) rfl ar ah ?_;simp only [sS];refine av 10 (.pointer (some ⟨ub,uo+u*22,none⟩)) rfl ar ah ?_;simp only [sS];refine av 11 (.pointer (some ⟨ub,uo+u*22+10,none⟩)) rfl ar ah ?_;simp only [sS];refine av 12 (i64 up) rfl ar ah ?_;simp only [sS];refine av 13 (.bool true) rfl ar ah ?_;simp only [sS];refine av 14 (.bool true) rfl ar ah ?_;simp only [sS];refine ax (by kernel_rfl) ?_ _;clear ar ah;have HQ:Hid (ve=72):=by show _=_;rw [lZ.out];rw [sw.out,HZ.out,Oy.out,HU.out,Bool.false_or,Bool.and_false];rfl
    go_wp2_with fail
    go_ret;exact ⟨by rw [HQ.out];rfl,HX.out.drew⟩
   ·have tu:decide (up≤x.length)=false:=by simpa using hu
    have HU:Hid (decide (x.length<up)=true):=by show _=_;simp;omega
    clear hu;go_wp2_with fail
    refine ay (fun w'=>w'.cell? ⟨B,4,none⟩=some (.slice (some ⟨ub,uo,none⟩) c.aj.length c.uc)∧w'.cell? ⟨X,4,none⟩=some (i64 (u:Int))∧w'.cell? ⟨X,5,none⟩=some (i64 x.length)∧w'.cell? ⟨ub,uo+u*22+10,none⟩=some (i64 up)) (fun w'=>True) (fun i=>false) (by kernel_rfl) (⟨k4,rT,tO,K5⟩) (trivial) (fun ar ah=> ?_);refine av 0 (.pointer (some ⟨X,5,none⟩)) rfl ar ah ?_;simp only [sS];refine av 1 (i64 x.length) rfl ar ah ?_;simp only [sS];refine av 2 (.bool true) rfl ar ah ?_;simp only [sS];refine av 3 (.bool true) rfl ar ah ?_;simp only [sS];refine av 4 (.pointer (some ⟨X,5,none⟩)) rfl ar ah ?_;simp only [sS];refine av 5 (i64 x.length) rfl ar ah ?_;simp only [sS];refine av 6 (.pointer (some ⟨B,4,none⟩)) rfl ar ah ?_;simp only [sS];refine av 7 (.slice (some ⟨ub,uo,none⟩) c.aj.length c.uc) rfl ar ah ?_;simp only [sS];refine av 8 (.pointer (some ⟨X,4,none⟩)) rfl ar ah ?_;simp only [sS];refine av 9 (i64 (u:Int)) rfl ar ah ?_;simp only [sS];refine av 10 (.pointer (some ⟨ub,uo+u*22,none⟩)) rfl ar ah ?_;simp only [sS];refine av 11 (.pointer (some ⟨ub,uo+u*22+10,none⟩)) rfl ar ah ?_;simp only [sS];refine av 12 (i64 up) rfl ar ah ?_;simp only [sS];refine av 13 (.bool false) rfl ar ah ?_;simp only [sS];refine av 14 (.bool false) rfl ar ah ?_;simp only [sS];refine ax (by kernel_rfl) ?_ _;clear ar ah;have HQ:Hid (ve=0):=by show _=_;rw [lZ.out];rw [HF.out,sw.out,HZ.out,Oy.out,HU.out];rfl
    go_wp2_with fail
    go_ret;exact ⟨by rw [HQ.out];rfl,HX.out.drew⟩
set_option maxHeartbeats 1000000 in
set_option maxRecDepth 100000 in
theorem DX (V:World) (c:aq) (x:cq) (hc:aT V c) (hl:nN c) (hI:aA V x.ua x.uc x.aj):
 Calls Tryz.prog 16 #[.agg (C8 c),.agg #[i64 x.kind,i64 x.hour,.slice x.ua x.aj.length x.uc,i64 x.least,i64 x.unit,i64 x.length]] V fun e w'=>e= .returned (i64 (fz c x))∧Ext V w':=by
 try unfold C8
 have dB:=ae hc;have HI:=ae hI;have kW:=ae hl
 have jV:c.aj.length≤9223372036854775807:=by have:=hl.aj;omega
 have xg:Hid (fz c x=if bT c≠0 then bT c else if(cQ c x&&fW c x)=true then 0 else 72):=rfl;have Ow:Hid (fW c x=if x.kind=0 then decide (x.least≤fw c x.hour.toNat (x.aj.map Int.toNat))else(x.length==0)||decide (x.length<uR c x.unit.toNat)):=rfl;have ox:Hid (bT c=0→eZ c):=kJ;obtain ⟨ce,hce⟩: ∃ce,ce=bT c:=⟨_,rfl⟩;rw [←hce]at xg ox;obtain ⟨ve,GV⟩: ∃ve,ve=fz c x:=⟨_,rfl⟩;rw [←GV]at xg⊢;have Br:=ae hce;clear hc hI hl hce GV;go_enter Tryz.func16,Tryz.ntmps16
 go_upto_region 1 with fail
 obtain ⟨W,hW,x0,Z0,A0,A1⟩:=fP V 32 c.cells 24 x.cells;rw [show(V.alloc (.cells (C8 c) 32)).alloc (.cells #[i64 x.kind,i64 x.hour,.slice x.ua x.aj.length x.uc,i64 x.least,i64 x.unit,i64 x.length] 24)=W from hW.symm];obtain ⟨B,hB⟩: ∃B,B=V.heap.size:=⟨_,rfl⟩;obtain ⟨X,hX⟩: ∃X,X=V.heap.size+1:=⟨_,rfl⟩;rw [←hX]at A1⊢;rw [←hB]at A0⊢;have HX:=ae x0;have HA:=ae A0;have HB:=ae A1
 clear hW x0 Z0 A0 A1 hB hX;obtain ⟨k0,k1,k2,k3,k4,k5,k6,k7⟩:=aq.at HA.out;obtain ⟨xS,sA,sB,sD,rT,tO⟩:=cq.at HB.out;go_wp2_with fail
 refine (qy W c (dB.out.ext HX.out) kW.out).mono ?_;rintro e w1 ⟨ek,ei,ef,rfl,xx⟩;go_upto_region 2 with fail
 obtain ⟨W2,hW2,x2,Z2,A2⟩:=aB w1 52 [i64 ek,i64 ei,i64 ef];rw [show w1.alloc (.cells #[i64 ek,i64 ei,i64 ef] 52)=W2 from hW2.symm];clear hW2 Z2 A2;rw [←Br.out];clear k0 k1 k2 k3 k4 k5 k6 k7 xS sA sB sD rT tO;have HA:=ae (HA.out.ext (xx.trans x2));have HB:=ae (HB.out.ext (xx.trans x2));have HX:=ae (HX.out.trans (xx.trans x2))
 clear xx x2;obtain ⟨k0,k1,k2,k3,k4,k5,k6,k7⟩:=aq.at HA.out;obtain ⟨xS,sA,sB,sD,rT,tO⟩:=cq.at HB.out;by_cases hz:ce=0
 rotate_left
 ·have HQ:Hid (ve=ce):=by show _=_;rw [xg.out,if_pos hz]
  have tz:(ce !=0)=true:=by simpa using hz
  clear hz;go_wp2_with fail
  go_ret;exact ⟨by rw [HQ.out];rfl,HX.out⟩
 have tz:(ce !=0)=false:=by simpa using hz
 have eR:=ox.out hz;have lZ:Hid (ve=if(cQ c x&&fW c x)=true then 0 else 72):=by show _=_;rw [xg.out,if_neg (fun e=>e hz)]
 have ky:=ae eR;clear hz eR ox;clear jV;have HIS:=ae (MS V W2 c x HX.out dB.out ky.out (HI.out.ext HX.out));go_wp2_with fail
 refine HIS.out.mono ?_;rintro e w3 ⟨rfl,xx⟩;have HX:=ae (HX.out.trans xx);rcases Bool.eq_false_or_eq_true (cQ c x&&fW c x)with hf|hf
 ·rw [hf]
  have HQ:Hid (ve=0):=by show _=_;rw [lZ.out];rw [hf];rfl
  go_wp2_with fail
  go_ret;exact ⟨by rw [HQ.out];rfl,HX.out⟩
 ·rw [hf]
  have HQ:Hid (ve=72):=by show _=_;rw [lZ.out];rw [hf];rfl
  go_wp2_with fail
  go_ret;exact ⟨by rw [HQ.out];rfl,HX.out⟩
end Go.Proofs.YtkpngkdgphojlaaGreat
