/- Texts of the proof. -/
import Derived.Test.YtkpngkdgphojlaaGreatCc18
set_option linter.all false
namespace Go.Proofs.YtkpngkdgphojlaaGreat
open Go.RowKit
theorem dQ.le {n:Nat} {us:List Nat} (h:dQ n us):us.length≤n:=by
 have hp:=List.pairwise_iff_getElem.1 h.wU
 have key: ∀i (hi:i<us.length),i≤us[i]:=by
  intro i;induction i with
  |zero=>intro _;exact Nat.zero_le _
  |succ i ih=>
   intro hi;have h1:=ih (by omega);have h2:=hp i (i+1) (by omega) hi (by omega);omega
 by_cases q:us.length=0
 ·omega
 ·have h1:=key (us.length-1) (by omega)
  have h2:=h.lt _ (List.getElem_mem (show us.length-1<us.length by omega));omega
set_option maxHeartbeats 1000000 in
set_option maxRecDepth 100000 in
theorem jf (V:World) (c:aq) (hour:Int) (a:Option Addr) (cap:Nat) (l:List Int) (hc:aT V c) (hl:nN c) (hI:aA V a cap l) (hh:br hour):
 Calls Tryz.prog 12 #[.agg (C8 c),i64 hour,.slice a l.length cap] V fun e w'=>e= .returned (.tuple #[i64 (kP c hour l).1,i64 (kP c hour l).2])∧Ext V w':=by
 try unfold C8
 have dB:=ae hc;have HI:=ae hI;have kW:=ae hl
 have hle:=hI.le;have di:=hI.cap
 have jV:c.aj.length≤9223372036854775807:=by have:=hl.aj;omega
 have xg:Hid (kP c hour l=if bT c≠0 then(0,bT c)else if eN c hour=false then(0,12)else if gR c.aj.length l=false then(0,72)else((fw c hour.toNat (l.map Int.toNat):Int),0)):=rfl;have ox:Hid (bT c=0→eZ c):=kJ;obtain ⟨ce,hce⟩: ∃ce,ce=bT c:=⟨_,rfl⟩;rw [←hce]at xg ox;obtain ⟨⟨g1,g2⟩,GV⟩: ∃ve,ve=kP c hour l:=⟨_,rfl⟩;rw [←GV]at xg⊢;have Br:=ae hce;clear hc hI hl hce GV;go_enter Tryz.func12,Tryz.ntmps12
 go_upto_region 1 with fail
 obtain ⟨W,hW,x0,Z0,A0⟩:=aB V 32 c.cells;rw [show V.alloc (.cells (C8 c) 32)=W from hW.symm];obtain ⟨B,hB⟩: ∃B,B=V.heap.size:=⟨_,rfl⟩;rw [←hB]at A0⊢;have HX:=ae x0;have HA:=ae A0
 clear hW x0 Z0 A0;obtain ⟨k0,k1,k2,k3,k4,k5,k6,k7⟩:=aq.at HA.out;clear hB;go_wp2_with fail
 refine (zl W c (dB.out.ext HX.out) kW.out).mono ?_;rintro e w1 ⟨ek,ei,ef,rfl,xx⟩;go_upto_region 2 with fail
 obtain ⟨W2,hW2,x2,Z2,A2⟩:=aB w1 52 [i64 ek,i64 ei,i64 ef];rw [show w1.alloc (.cells #[i64 ek,i64 ei,i64 ef] 52)=W2 from hW2.symm];clear hW2 Z2 A2;rw [←Br.out];clear k0 k1 k2 k3 k4 k5 k6 k7;have HA:=ae (HA.out.ext (xx.trans x2));have HX:=ae (HX.out.trans (xx.trans x2))
 clear xx x2;obtain ⟨k0,k1,k2,k3,k4,k5,k6,k7⟩:=aq.at HA.out;by_cases hz:ce=0
 rotate_left
 ·have HQ:Hid (g1=0∧g2=ce):=by
   have:=xg.out;rw [if_pos hz,Prod.mk.injEq]at this;exact this
  have tz:(ce !=0)=true:=by simpa using hz
  clear hz;go_wp2_with fail
  go_ret2
  exact ⟨by rw [HQ.out.1,HQ.out.2];rfl,HX.out⟩
 have tz:(ce !=0)=false:=by simpa using hz
 have eR:=ox.out hz;have lZ:Hid ((g1,g2)=if eN c hour=false then(0,12)else if gR c.aj.length l=false then(0,72)else((fw c hour.toNat (l.map Int.toNat):Int),0)):=by show _=_;rw [xg.out,if_neg (fun e=>e hz)]
 have ky:=ae eR;clear hz eR ox;clear jV hle di;go_wp2_with fail
 refine (vO W2 c hour).mono ?_;rintro e w3 ⟨rfl,xx⟩;clear k0 k1 k2 k3 k4 k5 k6 k7;have HA:=ae (HA.out.ext xx);have HX:=ae (HX.out.trans xx)
 clear xx;obtain ⟨k0,k1,k2,k3,k4,k5,k6,k7⟩:=aq.at HA.out;rcases Bool.eq_false_or_eq_true (eN c hour)with th|th;rotate_left
 ·rw [th]
  have HQ:Hid (g1=0∧g2=12):=by
   have hv:=lZ.out;rw [if_pos th]at hv;rw [Prod.mk.injEq]at hv;exact hv
  go_wp2_with fail
  go_ret2
  exact ⟨by rw [HQ.out.1,HQ.out.2];rfl,HX.out⟩
 rw [th];have TH:=ae th;clear th;have HST:=ae (yU w3 c a cap l (HI.out.ext HX.out));go_wp2_with fail
 refine HST.out.mono ?_;rintro e w4 ⟨rfl,xx⟩;clear k0 k1 k2 k3 k4 k5 k6 k7;have HA:=ae (HA.out.ext xx);have HX:=ae (HX.out.trans xx)
 clear xx;obtain ⟨k0,k1,k2,k3,k4,k5,k6,k7⟩:=aq.at HA.out;rcases Bool.eq_false_or_eq_true (gR c.aj.length l)with ts|ts;rotate_left
 ·rw [ts]
  have HQ:Hid (g1=0∧g2=72):=by
   have hv:=lZ.out;rw [if_neg (by rw [TH.out];simp),if_pos ts]at hv;rw [Prod.mk.injEq]at hv;exact hv
  go_wp2_with fail
  go_ret2
  exact ⟨by rw [HQ.out.1,HQ.out.2];rfl,HX.out⟩
 rw [ts];have TS:=ae ts;clear ts HST;obtain ⟨n,e1,e2⟩:=lD TH.out;obtain ⟨us,u1,u2,u3⟩:=py TS.out;subst e1 u1
 have HQ:Hid (g1=((fw c n us:Nat):Int)∧g2=0):=by
  have hv:=lZ.out;rw [if_neg (by rw [TH.out];simp),if_neg (by rw [TS.out];simp),fK,Int.toNat_natCast,Prod.mk.injEq]at hv;exact hv
 have IL:=ae (ri V w4 c n us a cap HX.out dB.out ky.out e2 u2 u3 (HI.out.ext HX.out));rw [aK];generalize fw c n us=gr at*;clear e2 u2 u3;go_wp2_with fail
 refine IL.out.mono ?_;rintro e w5 ⟨rfl,xx⟩;have HX:=ae (HX.out.trans xx);go_wp2_with fail
 go_ret2
 exact ⟨by rw [HQ.out.1,HQ.out.2];rfl,HX.out⟩
set_option maxHeartbeats 1000000 in
set_option maxRecDepth 100000 in
theorem xH (V:World) (c:aq) (hour:Int) (a:Option Addr) (cap:Nat) (l:List Int) (hc:aT V c) (hl:nN c) (hI:aA V a cap l) (hh:br hour):
 Calls Tryz.prog 13 #[.agg (C8 c),i64 hour,.slice a l.length cap] V fun e w'=>e= .returned (.tuple #[i64 (kP c hour l).1,i64 (kP c hour l).2])∧Ext V w':=by
 try unfold C8
 have dB:=ae hc;have HI:=ae hI;have kW:=ae hl
 have hle:=hI.le;have di:=hI.cap
 have jV:c.aj.length≤9223372036854775807:=by have:=hl.aj;omega
 have xg:Hid (kP c hour l=if bT c≠0 then(0,bT c)else if eN c hour=false then(0,12)else if gR c.aj.length l=false then(0,72)else((fw c hour.toNat (l.map Int.toNat):Int),0)):=rfl;have ox:Hid (bT c=0→eZ c):=kJ;obtain ⟨ce,hce⟩: ∃ce,ce=bT c:=⟨_,rfl⟩;rw [←hce]at xg ox;obtain ⟨⟨g1,g2⟩,GV⟩: ∃ve,ve=kP c hour l:=⟨_,rfl⟩;rw [←GV]at xg⊢;have Br:=ae hce;clear hc hI hl hce GV;go_enter Tryz.func13,Tryz.ntmps13
 go_upto_region 1 with fail
 obtain ⟨W,hW,x0,Z0,A0⟩:=aB V 32 c.cells;rw [show V.alloc (.cells (C8 c) 32)=W from hW.symm];obtain ⟨B,hB⟩: ∃B,B=V.heap.size:=⟨_,rfl⟩;rw [←hB]at A0⊢;have HX:=ae x0;have HA:=ae A0
 clear hW x0 Z0 A0;obtain ⟨k0,k1,k2,k3,k4,k5,k6,k7⟩:=aq.at HA.out;clear hB;go_wp2_with fail
 refine (qy W c (dB.out.ext HX.out) kW.out).mono ?_;rintro e w1 ⟨ek,ei,ef,rfl,xx⟩;go_upto_region 2 with fail
 obtain ⟨W2,hW2,x2,Z2,A2⟩:=aB w1 52 [i64 ek,i64 ei,i64 ef];rw [show w1.alloc (.cells #[i64 ek,i64 ei,i64 ef] 52)=W2 from hW2.symm];clear hW2 Z2 A2;rw [←Br.out];clear k0 k1 k2 k3 k4 k5 k6 k7;have HA:=ae (HA.out.ext (xx.trans x2));have HX:=ae (HX.out.trans (xx.trans x2))
 clear xx x2;obtain ⟨k0,k1,k2,k3,k4,k5,k6,k7⟩:=aq.at HA.out;by_cases hz:ce=0
 rotate_left
 ·have HQ:Hid (g1=0∧g2=ce):=by
   have:=xg.out;rw [if_pos hz,Prod.mk.injEq]at this;exact this
  have tz:(ce !=0)=true:=by simpa using hz
  clear hz;go_wp2_with fail
  go_ret2
  exact ⟨by rw [HQ.out.1,HQ.out.2];rfl,HX.out⟩
 have tz:(ce !=0)=false:=by simpa using hz
 have eR:=ox.out hz;have lZ:Hid ((g1,g2)=if eN c hour=false then(0,12)else if gR c.aj.length l=false then(0,72)else((fw c hour.toNat (l.map Int.toNat):Int),0)):=by show _=_;rw [xg.out,if_neg (fun e=>e hz)]
 have ky:=ae eR;clear hz eR ox;have GI:Hid (eN c hour=(decide (0≤hour)&&decide (hour<c.hours))):=rfl;by_cases b1:hour<0
 ·have th:Hid (eN c hour=false):=by show _=_;rw [GI.out,decide_eq_false (by omega),Bool.false_and]
  have HQ:Hid (g1=0∧g2=12):=by
   have hv:=lZ.out;rw [if_pos th.out]at hv;rw [Prod.mk.injEq]at hv;exact hv
  go_wp2_with fail
  go_ret2
  exact ⟨by rw [HQ.out.1,HQ.out.2];rfl,HX.out⟩
 by_cases b2:c.hours≤hour
 ·have th:Hid (eN c hour=false):=by show _=_;rw [GI.out,decide_eq_false (p:=hour<c.hours) (by omega),Bool.and_false]
  have HQ:Hid (g1=0∧g2=12):=by
   have hv:=lZ.out;rw [if_pos th.out]at hv;rw [Prod.mk.injEq]at hv;exact hv
  go_wp2_with fail
  go_ret2
  exact ⟨by rw [HQ.out.1,HQ.out.2];rfl,HX.out⟩
 have TH:Hid (eN c hour=true):=by show _=_;rw [GI.out,decide_eq_true (by omega),decide_eq_true (by omega)];rfl
 have Lf:Hid (cQ c ⟨0,hour,a,cap,l,1,0,0⟩=gR c.aj.length l):=by
  show _=_;unfold cQ;rw [TH.out,Bool.true_and,if_pos rfl];cases q:gR c.aj.length l with
  |false=>simp
  |true=>
   obtain ⟨us,u1,_,u3⟩:=py q;have:(1:Int)≤(l.length:Int):=by rw [u1,aK];omega
   simp;omega
 have DW:=yV W2 c ⟨0,hour,a,cap,l,1,0,0⟩ (HI.out.ext HX.out) jV;rw [Lf.out]at DW;have DW:=ae DW;clear jV;go_wp2_with fail
 refine DW.out.mono ?_;rintro e w3 ⟨rfl,xx⟩;clear k0 k1 k2 k3 k4 k5 k6 k7;have HA:=ae (HA.out.ext xx);have HX:=ae (HX.out.trans xx)
 clear xx;obtain ⟨k0,k1,k2,k3,k4,k5,k6,k7⟩:=aq.at HA.out;clear DW;rcases Bool.eq_false_or_eq_true (gR c.aj.length l)with ts|ts;rotate_left
 ·rw [ts]
  have HQ:Hid (g1=0∧g2=72):=by
   have hv:=lZ.out;rw [if_neg (by rw [TH.out];simp),if_pos ts]at hv;rw [Prod.mk.injEq]at hv;exact hv
  go_wp2_with fail
  go_ret2
  exact ⟨by rw [HQ.out.1,HQ.out.2];rfl,HX.out⟩
 rw [ts];have TS:=ae ts;clear ts b1 b2 Lf;obtain ⟨n,e1,e2⟩:=lD TH.out;obtain ⟨us,u1,u2,u3⟩:=py TS.out;subst e1 u1;rw [aK]at hle
 have HQ:Hid (g1=((fw c n us:Nat):Int)∧g2=0):=by
  have hv:=lZ.out;rw [if_neg (by rw [TH.out];simp),if_neg (by rw [TS.out];simp),fK,Int.toNat_natCast,Prod.mk.injEq]at hv;exact hv
 have JK:=ae (fun U (hU:Ext V U) k (h1:1≤k) (h2:k≤us.length)=>tN V U c n us a cap k hU dB.out ky.out e2 u2 h1 h2 (HI.out.ext hU));have CA:=ae (Cx c n us);have ZG:us.length≤16:=Nat.le_trans u2.le ky.out.frame.aj;rw [aK];generalize fw c n us=gr at*;clear e2 u2;obtain ⟨wo,uM⟩: ∃wo:World,wo=w3:=⟨_,rfl⟩;go_wp2_with fail
 clear k0 k1 k2 k3 k4 k5 k6 k7 uM;go_loopw [10,11] (fun nv kv wr=> ∃k:Nat,1≤k∧k≤us.length+1∧Ext w3 wr∧nv= .int .i64 ((min (k-1) gr:Nat):Int)∧kv= .int .i64 k) (fun _ kv _=>us.length+1-(intOf kv).toNat)
 case atStart=>exact ⟨1,Nat.le_refl _,by omega,Ext.refl _,by simp,rfl⟩
 case round=>
  obtain ⟨k,oJ,hk,hE,rfl,rfl⟩:=hrel;obtain ⟨k0,k1,k2,k3,k4,k5,k6,k7⟩:=aq.at (HA.out.ext hE);by_cases hlt:k≤us.length
  ·have HC:=ae (JK.out wr (HX.out.trans hE) k oJ hlt)
   have I5:(k:Int)≤(us.length:Int):=by omega
   have HE:=ae hE;clear hE;rcases Bool.eq_false_or_eq_true (decide (k≤gr))with hq|hq
   ·rw [hq]at HC
    have HM:Hid (min (k+1-1) gr=k):=by show _=_;have:=of_decide_eq_true hq;omega
    clear hq;go_wp2_with fail
    refine HC.out.mono ?_;rintro e w5 ⟨rfl,xx⟩;have CB:=ae (HE.out.trans xx);clear xx k0 k1 k2 k3 k4 k5 k6 k7;go_wp2_with fail
    exact ⟨⟨k+1,by omega,by omega,CB.out,by rw [HM.out],by go_num⟩,by simp only [intOf];omega⟩
   ·rw [hq]at HC
    have HM:Hid (min (k+1-1) gr=min (k-1) gr):=by show _=_;have:=of_decide_eq_false hq;omega
    clear hq;go_wp2_with fail
    refine HC.out.mono ?_;rintro e w5 ⟨rfl,xx⟩;have CB:=ae (HE.out.trans xx);clear xx k0 k1 k2 k3 k4 k5 k6 k7;go_wp2_with fail
    exact ⟨⟨k+1,by omega,by omega,CB.out,by rw [HM.out],by go_num⟩,by simp only [intOf];omega⟩
  ·obtain rfl:k=us.length+1:=by omega
   have HM:Hid (min (us.length+1-1) gr=gr):=by show _=_;have:=CA.out;omega
   rw [HM.out];have I5: ¬((us.length+1:Nat):Int)≤(us.length:Int):=by omega
   have HE:=ae hE;clear hE;go_wp2_with fail
   go_ret2
   exact ⟨by rw [HQ.out.1,HQ.out.2];rfl,HX.out.trans HE.out⟩
end Go.Proofs.YtkpngkdgphojlaaGreat
