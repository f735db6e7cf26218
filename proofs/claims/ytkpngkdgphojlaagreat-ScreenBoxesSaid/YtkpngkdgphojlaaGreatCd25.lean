/- Texts of the proof. -/
import Derived.Test.YtkpngkdgphojlaaGreatCd23
import Derived.Test.YtkpngkdgphojlaaGreatCd24
set_option linter.all false
set_option maxHeartbeats 2000000
set_option maxRecDepth 100000
namespace Go.Proofs.YtkpngkdgphojlaaGreat
open Go.Proofs.Tryz
open Go.RowKit
theorem IQ (w0 V:World) (c:ai) (a:Option Addr) (kc:Nat) (ks:List KV) (hV:Ext w0 V) (hc:aS w0 c) (hk:iI w0 a kc ks):
 Calls prog 122 #[.agg (C8 c),.slice a ks.length kc] V fun e w'=>e= .returned (.bool (pZ c ks))∧Ext V w':=by
 try unfold C8
 have hle:=hk.le;have dy:=hk.recs.cap
 have IA:=hc.au.le;have Mz:=hc.au.cap
 rw [List.length_map]at IA;have HK:=ae (hk.ext hV);clear hc hk hV;go_enter func122,ntmps122
 go_upto_region 1 with fail
 obtain ⟨W,hW,x0,Z0,A0⟩:=aH V 32 c.cells;rw [show V.alloc (.cells (C8 c) 32)=W from hW.symm];obtain ⟨B,hB⟩: ∃B,B=V.heap.size:=⟨_,rfl⟩;rw [←hB]at A0⊢;have HX:=ae x0;have HA:=ae A0
 clear hW x0 Z0 A0 hB;obtain ⟨k0,-,-,-,k4,-⟩:=ai.at HA.o;by_cases hn:ks.length=c.au.length
 rotate_left
 ·have tn:((ks.length:Int) !=(c.au.length:Int))=true:=bne_iff_ne.2 (by omega)
  have HQ:Hid (pZ c ks=false):=AZ hn;clear hn;go_wp2_with fail
  go_ret;exact ⟨by rw [HQ.o];rfl,HX.o⟩
 have tn:((ks.length:Int) !=(c.au.length:Int))=false:=bne_eq_false_iff_eq.2 (by omega);have HN:=ae hn;clear hn;go_wp2_with fail
 clear tn k0 k4;go_loopw [5] (fun ii wr=> ∃k:Nat,k≤ks.length∧(∀j (hj:j<ks.length),j<k→(ks[j].l.length:Int)=c.hours)∧Ext W wr∧ii= .int .i64 k) (fun ii _=>ks.length-(intOf ii).toNat)
 case atStart=>exact ⟨0,Nat.zero_le _,fun j _ hj=>absurd hj (Nat.not_lt_zero _),Ext.refl _,rfl⟩
 case round=>
  obtain ⟨i,hi,hL,hE,rfl⟩:=hrel;obtain ⟨k0,-,-,-,k4,-⟩:=ai.at (HA.o.ext hE);by_cases hlt:i<ks.length
  ·obtain ⟨b,o,x,hx,ha,c0⟩:=(HK.o.ext (HX.o.trans hE)).at i hlt
   have f_:(0:Int)≤(i:Int):=by omega
   have fU:(i:Int)<(ks.length:Int):=by omega
   have nU:=ae hL;have HE:=ae hE;have yN:=ae hlt
   have py:=ae hx;rw [ha];clear hL hE ha hx k4;by_cases hq:(x.l.length:Int)=c.hours
   ·have tq:((x.l.length:Int) !=c.hours)=false:=by simpa using hq
    have Kd:Hid (∀j (hj:j<ks.length),j<i+1→(ks[j].l.length:Int)=c.hours):=fun j hj oP=>by
     by_cases e:j=i
     ·subst e;rw [←py.o];exact hq
     ·exact nU.o j hj (by omega)
    clear hq;go_upto_region 6 with fail
    refine aB (fun w'=>w'.cell? ⟨b,o+i,none⟩=some (.slice x.a x.l.length x.c)∧w'.cell? ⟨B,0,none⟩=some (i64 c.hours)) (fun _=>True) (fun i=>false) (by kernel_rfl) (⟨aj (Ext.refl _).drew c0,aj (Ext.refl _).drew k0⟩) trivial (fun aq _=> ?_);refine ay 0 aq trivial ?_;refine ay 1 aq trivial ?_ (v:= .int .i64 (i:Int));refine ay 2 aq trivial ?_;refine ay 3 aq trivial ?_;refine ay 4 aq trivial ?_ (v:= .int .i64 (x.l.length:Int));refine ay 5 aq trivial ?_;refine ay 6 aq trivial ?_ (v:=i64 c.hours);refine ay 7 aq trivial ?_;refine ax (by kernel_rfl) ?_ _;go_wp2_with fail
    exact ⟨⟨i+1,by omega,Kd.o,HE.o.drew,by go_num⟩,by simp only [intOf];omega⟩
   ·have tq:((x.l.length:Int) !=c.hours)=true:=by simpa using hq
    have HQ:Hid (pZ c ks=false):=Em i yN.o (by rw [←py.o];exact hq);clear hq;go_upto_region 6 with fail
    refine aB (fun w'=>w'.cell? ⟨b,o+i,none⟩=some (.slice x.a x.l.length x.c)∧w'.cell? ⟨B,0,none⟩=some (i64 c.hours)) (fun _=>True) (fun i=>false) (by kernel_rfl) (⟨aj (Ext.refl _).drew c0,aj (Ext.refl _).drew k0⟩) trivial (fun aq _=> ?_);refine ay 0 aq trivial ?_;refine ay 1 aq trivial ?_ (v:= .int .i64 (i:Int));refine ay 2 aq trivial ?_;refine ay 3 aq trivial ?_;refine ay 4 aq trivial ?_ (v:= .int .i64 (x.l.length:Int));refine ay 5 aq trivial ?_;refine ay 6 aq trivial ?_ (v:=i64 c.hours);refine ay 7 aq trivial ?_;refine ax (by kernel_rfl) ?_ _;go_wp2_with fail
    go_ret;exact ⟨by rw [HQ.o];rfl,HX.o.trans HE.o.drew⟩
  ·obtain rfl:i=ks.length:=by omega
   have HQ:Hid (pZ c ks=true):=p7.2 ⟨HN.o,fun j hj=>hL j hj hj⟩;have HE:=ae hE;clear hL hE;go_wp2_with fail
   go_ret;exact ⟨by rw [HQ.o];rfl,HX.o.trans HE.o⟩
theorem F7 (w0 V:World) (c:ai) (a:Option Addr) (kc:Nat) (ks:List KV) (hV:Ext w0 V) (hc:aS w0 c) (hk:iI w0 a kc ks):
 Calls prog 70 #[.agg (C8 c),.slice a ks.length kc] V fun e w'=>e= .returned (.bool (mg c ks))∧Ext V w':=by
 try unfold C8
 have hle:=hk.le;have dy:=hk.recs.cap
 have HF:=ae (fun U (h:Ext V U)=>IQ w0 U c a kc ks (hV.trans h) hc hk);clear hc hk hV;go_enter func70,ntmps70
 go_upto_region 1 with fail
 obtain ⟨W,hW,x0,Z0,A0⟩:=aH V 32 c.cells;rw [show V.alloc (.cells (C8 c) 32)=W from hW.symm];obtain ⟨B,hB⟩: ∃B,B=V.heap.size:=⟨_,rfl⟩;rw [←hB]at A0⊢;have HX:=ae x0;have HA:=ae A0
 clear hW x0 Z0 A0 hB;have k0:=ai.at HA.o;by_cases hn:ks.length=0
 ·have tn:((ks.length:Int)==0)=true:=beq_iff_eq.2 (by omega)
  have HQ:Hid (mg c ks=true):=xL hn;clear hn;go_wp2_with fail
  go_ret;exact ⟨by rw [HQ.o];rfl,HX.o⟩
 ·have tn:((ks.length:Int)==0)=false:=beq_eq_false_iff_ne.2 (by omega)
  have HQ:Hid (mg c ks=pZ c ks):=uR hn;clear hn;go_wp2_with fail
  refine (HF.o W HX.o).mono ?_;rintro e w1 ⟨rfl,xx⟩;go_wp2_with fail
  go_ret;exact ⟨by rw [HQ.o];rfl,HX.o.trans xx⟩
theorem IU (V:World) (c:ai) (a:Option Addr) (kc:Nat) (ks:List KV) (hc:aS V c) (hl:oW c) (hk:iI V a kc ks):
 Calls prog 119 #[.agg (C8 c),.slice a ks.length kc] V fun e w'=>e= .returned (i64 (mh c ks))∧Ext V w':=by
 try unfold C8
 have hle:=hk.le;have dy:=hk.recs.cap
 have IA:=hc.au.le;have Mz:=hc.au.cap
 rw [List.length_map]at IA;have HK:=ae hk;have IV:=ae (fun U (h:Ext V U)=>IL U c (hc.ext h) hl);have Bw:Hid (mh c ks=if cV c≠0 then cV c else if mg c ks=true then 0 else 4):=rfl;obtain ⟨ce,hce⟩: ∃ce,ce=cV c:=⟨_,rfl⟩;obtain ⟨ve,Du⟩: ∃ve,ve=mh c ks:=⟨_,rfl⟩;rw [←hce,←Du]at Bw;rw [←Du];have Cy:=ae hce;clear hc hl hk hce Du;go_enter func119,ntmps119
 go_upto_region 1 with fail
 obtain ⟨W,hW,x0,Z0,A0⟩:=aH V 32 c.cells;rw [show V.alloc (.cells (C8 c) 32)=W from hW.symm];obtain ⟨B,hB⟩: ∃B,B=V.heap.size:=⟨_,rfl⟩;rw [←hB]at A0⊢;have HX:=ae x0;have HA:=ae A0
 clear hW x0 Z0 A0 hB;obtain ⟨k0,k1,k2,k3,k4,k5,k6,k7⟩:=ai.at HA.o;go_wp2_with fail
 refine (IV.o W HX.o).mono ?_;rintro e w1 ⟨ek,ei,ef,rfl,xx⟩;clear IV;go_upto_region 2 with fail
 obtain ⟨W2,hW2,x2,Z2,A2⟩:=aH w1 52 [i64 ek,i64 ei,i64 ef];rw [show w1.alloc (.cells #[i64 ek,i64 ei,i64 ef] 52)=W2 from hW2.symm];clear hW2 Z2 A2;rw [←Cy.o];clear k0 k1 k2 k3 k4 k5 k6 k7;have HA:=ae (HA.o.ext (xx.trans x2));have HX:=ae (HX.o.trans (xx.trans x2))
 clear xx x2;obtain ⟨k0,k1,k2,k3,k4,k5,k6,k7⟩:=ai.at HA.o;by_cases hz:ce=0
 rotate_left
 ·have HQ:Hid (ve=ce):=by show _=_;rw [Bw.o,if_pos hz]
  have tz:(ce !=0)=true:=by simpa using hz
  clear hz;go_wp2_with fail
  go_ret;exact ⟨by rw [HQ.o];rfl,HX.o⟩
 have tz:(ce !=0)=false:=by simpa using hz
 have Dv:Hid (ve=if mg c ks=true then 0 else 4):=by show _=_;rw [Bw.o,if_neg (fun e=>e hz)]
 clear hz Bw;go_upto_region 4 with fail
 by_cases hn:ks.length=0
 ·have tn:((ks.length:Int) !=0)=false:=bne_eq_false_iff_eq.2 (by omega)
  have HQ:Hid (ve=0):=by show _=_;rw [Dv.o,if_pos (xL hn)]
  have HN:=ae hn;clear hn;go_wp2_with fail
  clear tn tz k0 k1 k2 k3 k4 k5 k6 k7;go_loopw [30] (fun ii wr=>wr=W2∧ii= .int .i64 (ks.length:Int)) (fun ii _=>0)
  case atStart=>exact ⟨rfl,by rw [HN.o];rfl⟩
  case round=>
   obtain ⟨hw,rfl⟩:=hrel;rw [hw];clear hw;go_wp2_with fail
   go_ret;exact ⟨by rw [HQ.o];rfl,HX.o⟩
 have tn:((ks.length:Int) !=0)=true:=bne_iff_ne.2 (by omega);have N8:Hid (ve=if pZ c ks=true then 0 else 4):=by show _=_;rw [Dv.o,uR hn]
 clear hn Dv;by_cases hm:ks.length=c.au.length
 rotate_left
 ·have tm:((ks.length:Int) !=(c.au.length:Int))=true:=bne_iff_ne.2 (by omega)
  have HQ:Hid (ve=4):=by show _=_;rw [N8.o,AZ hm];rfl
  clear hm;go_wp2_with fail
  go_ret;exact ⟨by rw [HQ.o];rfl,HX.o⟩
 have tm:((ks.length:Int) !=(c.au.length:Int))=false:=bne_eq_false_iff_eq.2 (by omega);have HN:=ae hm;clear hm;go_wp2_with fail
 clear tn tz tm k0 k1 k2 k3 k4 k5 k6 k7;go_loopw [30] (fun ii wr=> ∃k:Nat,k≤ks.length∧(∀j (hj:j<ks.length),j<k→(ks[j].l.length:Int)=c.hours)∧Ext W2 wr∧ii= .int .i64 k) (fun ii _=>ks.length-(intOf ii).toNat)
 case atStart=>exact ⟨0,Nat.zero_le _,fun j _ hj=>absurd hj (Nat.not_lt_zero _),Ext.refl _,rfl⟩
 case round=>
  obtain ⟨i,hi,hL,hE,rfl⟩:=hrel;obtain ⟨k0,-,-,-,k4,-⟩:=ai.at (HA.o.ext hE);by_cases hlt:i<ks.length
  ·obtain ⟨b,o,x,hx,ha,c0⟩:=(HK.o.ext (HX.o.trans hE)).at i hlt
   have f_:(0:Int)≤(i:Int):=by omega
   have fU:(i:Int)<(ks.length:Int):=by omega
   have nU:=ae hL;have HE:=ae hE;have yN:=ae hlt
   have py:=ae hx;rw [ha];clear hL hE ha hx k4;by_cases hq:(x.l.length:Int)=c.hours
   ·have tq:((x.l.length:Int) !=c.hours)=false:=by simpa using hq
    have Kd:Hid (∀j (hj:j<ks.length),j<i+1→(ks[j].l.length:Int)=c.hours):=fun j hj oP=>by
     by_cases e:j=i
     ·subst e;rw [←py.o];exact hq
     ·exact nU.o j hj (by omega)
    clear hq;go_wp2_with fail
    exact ⟨⟨i+1,by omega,Kd.o,HE.o,by go_num⟩,by simp only [intOf];omega⟩
   ·have tq:((x.l.length:Int) !=c.hours)=true:=by simpa using hq
    have HQ:Hid (ve=4):=by show _=_;rw [N8.o,Em i yN.o (by rw [←py.o];exact hq)];rfl
    clear hq;go_wp2_with fail
    go_ret;exact ⟨by rw [HQ.o];rfl,HX.o.trans HE.o⟩
  ·obtain rfl:i=ks.length:=by omega
   have HQ:Hid (ve=0):=by show _=_;rw [N8.o,p7.2 ⟨HN.o,fun j hj=>hL j hj hj⟩];rfl
   have HE:=ae hE;clear hL hE;go_wp2_with fail
   go_ret;exact ⟨by rw [HQ.o];rfl,HX.o.trans HE.o⟩
theorem ze (V:World) (c:ai) (a:Option Addr) (kc:Nat) (ks:List KV) (h:Int) (hc:aS V c) (hl:oW c) (hk:iI V a kc ks):
 Calls prog 68 #[.agg (C8 c),.slice a ks.length kc,i64 h] V fun e w'=>e= .returned (i64 (ox c ks h))∧Ext V w':=by
 try unfold C8
 have hle:=hk.le;have dy:=hk.recs.cap
 have IV:=ae (fun U (x:Ext V U)=>IU U c a kc ks (hc.ext x) hl (hk.ext x));have Bw:Hid (ox c ks h=if mh c ks≠0 then mh c ks else if h<0∨c.hours≤h then 12 else 0):=rfl;obtain ⟨ce,hce⟩: ∃ce,ce=mh c ks:=⟨_,rfl⟩;obtain ⟨ve,Du⟩: ∃ve,ve=ox c ks h:=⟨_,rfl⟩;rw [←hce,←Du]at Bw;rw [←Du];have Cy:=ae hce;clear hc hl hk hce Du;go_enter func68,ntmps68
 go_upto_region 1 with fail
 obtain ⟨W,hW,x0,Z0,A0⟩:=aH V 32 c.cells;rw [show V.alloc (.cells (C8 c) 32)=W from hW.symm];obtain ⟨B,hB⟩: ∃B,B=V.heap.size:=⟨_,rfl⟩;rw [←hB]at A0⊢;have HX:=ae x0;have HA:=ae A0
 clear hW x0 Z0 A0 hB;obtain ⟨k0,k1,k2,k3,k4,k5,k6,k7⟩:=ai.at HA.o;go_wp2_with fail
 refine (IV.o W HX.o).mono ?_;rintro e w1 ⟨rfl,xx⟩;clear IV;rw [←Cy.o];clear k0 k1 k2 k3 k4 k5 k6 k7;have HA:=ae (HA.o.ext xx);have HX:=ae (HX.o.trans xx)
 clear xx;obtain ⟨k0,-⟩:=ai.at HA.o;by_cases hz:ce=0
 rotate_left
 ·have HQ:Hid (ve=ce):=by show _=_;rw [Bw.o,if_pos hz]
  have tz:(ce !=0)=true:=by simpa using hz
  clear hz;go_wp2_with fail
  go_ret;exact ⟨by rw [HQ.o];rfl,HX.o⟩
 have tz:(ce !=0)=false:=by simpa using hz
 have Dv:Hid (ve=if h<0∨c.hours≤h then 12 else 0):=by show _=_;rw [Bw.o,if_neg (fun e=>e hz)]
 clear hz Bw;by_cases h1:h<0
 ·have t1:decide (h<0)=true:=decide_eq_true h1
  have HQ:Hid (ve=12):=by show _=_;rw [Dv.o,if_pos (.inl h1)]
  clear h1;go_wp2_with fail
  go_ret;exact ⟨by rw [HQ.o];rfl,HX.o⟩
 have t1:decide (h<0)=false:=decide_eq_false h1;by_cases h2:c.hours≤h
 ·have t2:decide (c.hours≤h)=true:=decide_eq_true h2
  have HQ:Hid (ve=12):=by show _=_;rw [Dv.o,if_pos (.inr h2)]
  clear h1 h2;go_wp2_with fail
  go_ret;exact ⟨by rw [HQ.o];rfl,HX.o⟩
 ·have t2:decide (c.hours≤h)=false:=decide_eq_false h2
  have HQ:Hid (ve=0):=by show _=_;rw [Dv.o,if_neg (by omega)]
  clear h1 h2;go_wp2_with fail
  go_ret;exact ⟨by rw [HQ.o];rfl,HX.o⟩
theorem Dw (w0 V:World) (c:ai) (a:Option Addr) (kc:Nat) (ks:List KV) (u h:Nat) (hV:Ext w0 V) (hc:aS w0 c) (hk:iI w0 a kc ks) (hu:u<c.au.length) (ht:mg c ks=true) (hh:(h:Int)<c.hours):
 Calls prog 121 #[.agg (C8 c),.slice a ks.length kc,.int .i64 (u:Int),.int .i64 (h:Int)] V fun e w'=>e= .returned (.bool (oy c ks h u))∧Ext V w':=by
 try unfold C8
 have hle:=hc.au.le;have dy:=hc.au.cap
 rw [List.length_map]at hle;have FZ:=hk.le;have xR:=hk.recs.cap
 obtain ⟨b,o,ha,-,-,-,-,-,-,-,-,-,-,-,-,-,-,-,-,-,-,c18,-⟩:=(hc.au.ext hV).au u hu;have N_:=((hc.unit c.au[u] (List.getElem_mem hu)).2.1).ext hV
 have vg:Hid (oy c ks h u=(!hasB c.au[u].away (h:Int)&&(decide (ks.length=0)||(aR (rz ks u) h==2)))):=by
  show _=_;unfold oy;rw [AY hu]
 obtain ⟨x,jc⟩: ∃x,x=c.au[u]:=⟨_,rfl⟩;rw [←jc]at c18 N_ vg;obtain ⟨mb,GY⟩: ∃mb,mb=oy c ks h u:=⟨_,rfl⟩;rw [←GY]at vg⊢
 have IW:Hid (ks.length≠0→ ∃b o,∃x:KV,∃rb ro,a=some ⟨b,o,none⟩∧V.cell? ⟨b,o+u,none⟩=some (.slice (some ⟨rb,ro,none⟩) x.l.length x.c)∧V.cell? ⟨rb,ro+h,none⟩=some (i64 (aR (rz ks u) h))∧u<ks.length∧h<x.l.length∧x.l.length≤x.c∧x.c≤9223372036854775807):=fun hn=>by
  obtain ⟨Lj,XN⟩:=A7 ht hn hu;obtain ⟨b,o,y,hy,ha,c0⟩:=(hk.ext hV).at u Lj;have hI:=(hk.ext hV).row ks[u] (List.getElem_mem Lj);rw [←hy]at hI XN;have Oa:h<y.l.length:=by omega
  obtain ⟨rb,ro,XO,r0⟩:=hI.cell h Oa;rw [XO]at c0;refine ⟨b,o,y,rb,ro,ha,c0,?_,Lj,Oa,hI.le,hI.cap⟩;rw [En Lj,←hy,df Oa];exact r0
 have KT:=ae N_;have qK:=ae ha
 have f_:(0:Int)≤(u:Int):=by omega
 have fU:(u:Int)<(c.au.length:Int):=by omega
 have Ob:(0:Int)≤(h:Int):=by omega
 clear N_ jc hc hV ha hk GY ht hu hh;go_enter func121,ntmps121
 go_upto_region 1 with fail
 obtain ⟨W,hW,x0,Z0,A0⟩:=aH V 32 c.cells;rw [show V.alloc (.cells (C8 c) 32)=W from hW.symm];obtain ⟨B,hB⟩: ∃B,B=V.heap.size:=⟨_,rfl⟩;rw [←hB]at A0⊢;have HX:=ae x0;have HA:=ae A0
 clear hW x0 Z0 A0 hB;obtain ⟨-,-,-,-,k4,-⟩:=ai.at HA.o;rw [qK.o]at k4;have c18:=aj HX.o c18;have tD:=ae (nc W x.aa x.ac x.away h (KT.o.ext HX.o));rcases Bool.eq_false_or_eq_true (hasB x.away h)with hq|hq
 ·have HQ:Hid (mb=false):=by show _=_;rw [vg.o,hq];rfl
  rw [hq]at tD;clear hq;go_wp2_with fail
  refine tD.o.mono ?_;rintro e w1 ⟨rfl,fK⟩;rw [fK];clear fK
  go_wp2_with fail
  go_ret;exact ⟨by rw [HQ.o];rfl,HX.o⟩
 ·rw [hq]at tD
  have Ij:Hid (mb=(decide (ks.length=0)||(aR (rz ks u) h==2))):=by show _=_;rw [vg.o,hq];rfl
  clear hq vg;go_wp2_with fail
  refine tD.o.mono ?_;rintro e w1 ⟨rfl,fK⟩;rw [fK];clear fK
  by_cases hn:ks.length=0
  ·have tn:((ks.length:Int)==0)=true:=beq_iff_eq.2 (by omega)
   have HQ:Hid (mb=true):=by show _=_;rw [Ij.o,decide_eq_true hn];rfl
   clear hn;go_wp2_with fail
   go_ret;exact ⟨by rw [HQ.o];rfl,HX.o⟩
  ·have tn:((ks.length:Int)==0)=false:=beq_eq_false_iff_ne.2 (by omega)
   have Lk:Hid (mb=(aR (rz ks u) h==2)):=by show _=_;rw [Ij.o,decide_eq_false hn];rfl
   obtain ⟨b',o',y,rb,ro,hka,d0,r0,QV,Ik,hyl,hyc⟩:=IW.o hn;have d0:=aj HX.o d0;have r0:=aj HX.o r0;obtain ⟨v,hv⟩: ∃v,v=aR (rz ks u) h:=⟨_,rfl⟩;rw [←hv]at r0 Lk;have Ni:(u:Int)<(ks.length:Int):=by omega
   have Sn:(h:Int)<(y.l.length:Int):=by omega
   rw [hka];clear hn Ij IW hka hv QV Ik;by_cases hv:v=2
   ·have tv:(v==2)=true:=beq_iff_eq.2 hv
    have HQ:Hid (mb=true):=by show _=_;rw [Lk.o,tv]
    clear hv;go_wp2_with fail
    go_ret;exact ⟨by rw [HQ.o];rfl,HX.o⟩
   ·have tv:(v==2)=false:=beq_eq_false_iff_ne.2 hv
    have HQ:Hid (mb=false):=by show _=_;rw [Lk.o,tv]
    clear hv;go_wp2_with fail
    go_ret;exact ⟨by rw [HQ.o];rfl,HX.o⟩
theorem Ll (w0 V:World) (c:ai) (a:Option Addr) (kc:Nat) (ks:List KV) (u h:Nat) (hV:Ext w0 V) (hc:aS w0 c) (hk:iI w0 a kc ks) (hu:u<c.au.length) (ht:mg c ks=true) (hh:(h:Int)<c.hours):
 Calls prog 71 #[.agg (C8 c),.slice a ks.length kc,.int .i64 (u:Int),.int .i64 (h:Int)] V fun e w'=>e= .returned (.bool (oy c ks h u))∧Ext V w':=by
 try unfold C8
 have hle:=hc.au.le;have dy:=hc.au.cap
 rw [List.length_map]at hle;have FZ:=hk.le;have xR:=hk.recs.cap
 obtain ⟨b,o,ha,-,-,-,-,-,-,-,-,-,-,-,-,-,-,-,-,-,-,c18,-⟩:=(hc.au.ext hV).au u hu;have N_:=((hc.unit c.au[u] (List.getElem_mem hu)).2.1).ext hV
 have vg:Hid (oy c ks h u=(!hasB c.au[u].away (h:Int)&&(decide (ks.length=0)||(aR (rz ks u) h==2)))):=by
  show _=_;unfold oy;rw [AY hu]
 obtain ⟨x,jc⟩: ∃x,x=c.au[u]:=⟨_,rfl⟩;rw [←jc]at c18 N_ vg;obtain ⟨mb,GY⟩: ∃mb,mb=oy c ks h u:=⟨_,rfl⟩;rw [←GY]at vg⊢
 have IW:Hid (ks.length≠0→ ∃b o,∃x:KV,∃rb ro,a=some ⟨b,o,none⟩∧V.cell? ⟨b,o+u,none⟩=some (.slice (some ⟨rb,ro,none⟩) x.l.length x.c)∧V.cell? ⟨rb,ro+h,none⟩=some (i64 (aR (rz ks u) h))∧u<ks.length∧h<x.l.length∧x.l.length≤x.c∧x.c≤9223372036854775807):=fun hn=>by
  obtain ⟨Lj,XN⟩:=A7 ht hn hu;obtain ⟨b,o,y,hy,ha,c0⟩:=(hk.ext hV).at u Lj;have hI:=(hk.ext hV).row ks[u] (List.getElem_mem Lj);rw [←hy]at hI XN;have Oa:h<y.l.length:=by omega
  obtain ⟨rb,ro,XO,r0⟩:=hI.cell h Oa;rw [XO]at c0;refine ⟨b,o,y,rb,ro,ha,c0,?_,Lj,Oa,hI.le,hI.cap⟩;rw [En Lj,←hy,df Oa];exact r0
 have KT:=ae N_;have qK:=ae ha
 have f_:(0:Int)≤(u:Int):=by omega
 have fU:(u:Int)<(c.au.length:Int):=by omega
 have Ob:(0:Int)≤(h:Int):=by omega
 clear N_ jc hc hV ha hk GY ht hu hh;go_enter func71,ntmps71
 go_upto_region 1 with fail
 obtain ⟨W,hW,x0,Z0,A0⟩:=aH V 32 c.cells;rw [show V.alloc (.cells (C8 c) 32)=W from hW.symm];obtain ⟨B,hB⟩: ∃B,B=V.heap.size:=⟨_,rfl⟩;rw [←hB]at A0⊢;have HX:=ae x0;have HA:=ae A0
 clear hW x0 Z0 A0 hB;obtain ⟨-,-,-,-,k4,-⟩:=ai.at HA.o;rw [qK.o]at k4;have c18:=aj HX.o c18;have tD:=ae (Nj W x.aa x.ac x.away h (KT.o.ext HX.o));rcases Bool.eq_false_or_eq_true (hasB x.away h)with hq|hq
 ·have HQ:Hid (mb=false):=by show _=_;rw [vg.o,hq];rfl
  rw [hq]at tD;clear hq;go_wp2_with fail
  refine tD.o.mono ?_;rintro e w1 ⟨rfl,fK⟩;rw [fK];clear fK
  go_wp2_with fail
  go_ret;exact ⟨by rw [HQ.o];rfl,HX.o⟩
 ·rw [hq]at tD
  have Ij:Hid (mb=(decide (ks.length=0)||(aR (rz ks u) h==2))):=by show _=_;rw [vg.o,hq];rfl
  clear hq vg;go_wp2_with fail
  refine tD.o.mono ?_;rintro e w1 ⟨rfl,fK⟩;rw [fK];clear fK
  by_cases hn:ks.length=0
  ·have tn:((ks.length:Int)==0)=true:=beq_iff_eq.2 (by omega)
   have HQ:Hid (mb=true):=by show _=_;rw [Ij.o,decide_eq_true hn];rfl
   clear hn;go_wp2_with fail
   go_ret;exact ⟨by rw [HQ.o];rfl,HX.o⟩
  ·have tn:((ks.length:Int)==0)=false:=beq_eq_false_iff_ne.2 (by omega)
   have Lk:Hid (mb=(aR (rz ks u) h==2)):=by show _=_;rw [Ij.o,decide_eq_false hn];rfl
   obtain ⟨b',o',y,rb,ro,hka,d0,r0,QV,Ik,hyl,hyc⟩:=IW.o hn;have d0:=aj HX.o d0;have r0:=aj HX.o r0;obtain ⟨v,hv⟩: ∃v,v=aR (rz ks u) h:=⟨_,rfl⟩;rw [←hv]at r0 Lk;have Ni:(u:Int)<(ks.length:Int):=by omega
   have Sn:(h:Int)<(y.l.length:Int):=by omega
   rw [hka];clear hn Ij IW hka hv QV Ik;by_cases hv:v=2
   ·have tv:(v==2)=true:=beq_iff_eq.2 hv
    have HQ:Hid (mb=true):=by show _=_;rw [Lk.o,tv]
    clear hv;go_wp2_with fail
    go_ret;exact ⟨by rw [HQ.o];rfl,HX.o⟩
   ·have tv:(v==2)=false:=beq_eq_false_iff_ne.2 hv
    have HQ:Hid (mb=false):=by show _=_;rw [Lk.o,tv]
    clear hv;go_wp2_with fail
    go_ret;exact ⟨by rw [HQ.o];rfl,HX.o⟩
theorem lr.wrap {x:Int} (h:lr x):IntKind.i64.wrap x=x:=by unfold lr at h;rw [IntKind.wrap_i64];omega
theorem b_.but {w w':World} {B K:Nat} {f:Nat→Int} {n:Nat} (h:b_ w B f n) (x:ar K w w') (hb:B≠K):b_ w' B f n:=aJ.but h x hb
structure eK (w:World) (L H n:Nat) (f g:Nat→Int):Prop where
 lo:b_ w L f n
 hi:b_ w H g n
 ne:L≠H
theorem eK.ext {w w':World} {L H n:Nat} {f g:Nat→Int} (h:eK w L H n f g) (x:Ext w w'):eK w' L H n f g:=⟨h.lo.ext x,h.hi.ext x,h.ne⟩
theorem eK.congr {w:World} {L H n:Nat} {f g f' g':Nat→Int} (h:eK w L H n f g) (e: ∀b,b<n→f b=f' b) (e': ∀b,b<n→g b=g' b):eK w L H n f' g':=⟨h.lo.congr e,h.hi.congr e',h.ne⟩
theorem eK.set {w:World} {L H n:Nat} {f g:Nat→Int} (h:eK w L H n f g) (b:Nat) (x y:Int):eK ((w.setCell ⟨L,b,none⟩ (i64 x)).setCell ⟨H,b,none⟩ (i64 y)) L H n (fun j=>if j=b then x else f j) (fun j=>if j=b then y else g j):=
 ⟨aJ.other (h.lo.set b x) _ _ (fun e=>h.ne e.symm),b_.set (aJ.other h.hi _ _ h.ne) b y,h.ne⟩
theorem eK.acc {w:World} {L H n k:Nat} {f0 g0 bus u v:Nat→Int} (h:eK w L H n (fun b=>f0 b+a_ bus u k b) (fun b=>g0 b+a_ bus v k b)) (b:Nat) (hb:bus k=(b:Int)) {x y:Int} (hx:x=f0 b+a_ bus u k b+u k) (hy:y=g0 b+a_ bus v k b+v k):
 eK ((w.setCell ⟨L,b,none⟩ (i64 x)).setCell ⟨H,b,none⟩ (i64 y)) L H n (fun b=>f0 b+a_ bus u (k+1) b) (fun b=>g0 b+a_ bus v (k+1) b):=
 (h.set b x y).congr (fun j _=>by
   show(if j=b then x else f0 j+a_ bus u k j)=_;rw [iE];by_cases e:j=b
   ·subst e;rw [if_pos rfl,hx,if_pos hb];omega
   ·rw [if_neg e,if_neg (by omega)];omega) (fun j _=>by
   show(if j=b then y else g0 j+a_ bus v k j)=_;rw [iE];by_cases e:j=b
   ·subst e;rw [if_pos rfl,hy,if_pos hb];omega
   ·rw [if_neg e,if_neg (by omega)];omega)
theorem eK.Ih {w:World} {L H n k:Nat} {f0 g0 bus u v:Nat→Int} (h:eK w L H n (fun b=>f0 b+a_ bus u k b) (fun b=>g0 b+a_ bus v k b)) (hu:u k=0) (hv:v k=0):
 eK w L H n (fun b=>f0 b+a_ bus u (k+1) b) (fun b=>g0 b+a_ bus v (k+1) b):=
 h.congr (fun j _=>by rw [iE,hu];split<;>omega) (fun j _=>by rw [iE,hv];split<;>omega)
theorem eK.start {w:World} {L H n:Nat} {f0 g0:Nat→Int} (bus u v:Nat→Int) (h:eK w L H n f0 g0):eK w L H n (fun b=>f0 b+a_ bus u 0 b) (fun b=>g0 b+a_ bus v 0 b):=
 h.congr (fun j _=>by simp [a_]) (fun j _=>by simp [a_])
theorem Bx (W:World) (P Q L H n b:Nat) (f g:Nat→Int) (x y:Int) (hP:W.cell? ⟨P,0,none⟩=some (.slice (some ⟨L,0,none⟩) n n)) (hQ:W.cell? ⟨Q,0,none⟩=some (.slice (some ⟨H,0,none⟩) n n)) (Sp:Q≠L)
 (hT:eK W L H n f g) (hn:n≤1000) (hb:b<n) (hx:lr (f b+x)) (hy:lr (g b+y)):
 Calls prog 120 #[.int .i64 (b:Int),i64 x,i64 y,.pointer (some ⟨P,0,none⟩),.pointer (some ⟨Q,0,none⟩)] W fun e w'=>
  e= .returned (.tuple #[])∧w'=(W.setCell ⟨L,b,none⟩ (i64 (f b+x))).setCell ⟨H,b,none⟩ (i64 (g b+y)):=by
 have f_:(0:Int)≤(b:Int):=by omega
 have fU:(b:Int)<(n:Int):=by omega
 have tx:=hx.wrap;have ty:=hy.wrap;have HT:=ae hT;have HQ:=ae hQ
 obtain ⟨l0,f0⟩:=hT.lo.cell b hb;have HB:=ae hb;obtain ⟨p,hp⟩: ∃p,p=f b:=⟨_,rfl⟩;obtain ⟨q,hq⟩: ∃q,q=g b:=⟨_,rfl⟩;have wh:=ae hq;rw [←hp]at l0 tx⊢;rw [←hq]at ty⊢;clear hx hy hT hQ hb hp hq;go_enter func120,ntmps120
 go_upto_region 1 with fail
 obtain ⟨W1,hW1⟩: ∃W1,W1=W.setCell ⟨L,b,none⟩ (i64 (p+x)):=⟨_,rfl⟩;rw [←hW1]
 have q0:W1.cell? ⟨Q,0,none⟩=some (.slice (some ⟨H,0,none⟩) n n):=by
  rw [hW1];exact bL HQ.o ((ar.refl L W).set rfl _) Sp
 have hh:b_ W1 H g n:=by
  rw [hW1];exact aJ.other HT.o.hi _ _ HT.o.ne
 obtain ⟨h0,f1⟩:=hh.cell b HB.o;rw [←wh.o]at h0;clear hh l0 f0 HT HQ hP Sp;have Ur:=ae hW1;clear hW1;go_wp2_with fail
 exact bodyPost_end (v:= .tuple #[]) (by simp [results,results120,go_sem]) rfl ⟨rfl,by rw [Ur.o]⟩
theorem fq {f0 bus v:Nat→Int} {k b:Nat} {x:Int} (hb:bus k=(b:Int)) (hx:v k=x) (j:Nat):f0 j+a_ bus v (k+1) j=if j=b then(f0 b+a_ bus v k b)+x else f0 j+a_ bus v k j:=by
 rw [iE];by_cases e:j=b
 ·subst e;rw [if_pos rfl,if_pos hb,hx];omega
 ·rw [if_neg e,if_neg (by omega)];omega
theorem eN {f0 bus v:Nat→Int} {k b:Nat} {x:Int} (hb:bus k=(b:Int)) (hx:v k=x) (h:lr (f0 b+a_ bus v (k+1) b)):lr (f0 b+a_ bus v k b+x):=by
 rw [fq hb hx,if_pos rfl]at h;exact h
structure nD (V w:World) (c:ai) (B P Q L H n:Nat):Prop where
 x:Ext V w
 cs:aJ w B 32 c.cells
 p:aJ w P 22 [.slice (some ⟨L,0,none⟩) n n]
 q:aJ w Q 22 [.slice (some ⟨H,0,none⟩) n n]
 far:B≠L∧B≠H∧P≠L∧P≠H∧Q≠L∧Q≠H
 new:V.heap.size≤L∧V.heap.size≤H
theorem nD.ext {V w w':World} {c:ai} {B P Q L H n:Nat} (h:nD V w c B P Q L H n) (e:Ext w w'):nD V w' c B P Q L H n:=⟨h.x.trans e,h.cs.ext e,h.p.ext e,h.q.ext e,h.far,h.new⟩
theorem nD.set {V w:World} {c:ai} {B P Q L H n:Nat} (h:nD V w c B P Q L H n) (b:Nat) (x y:Value):nD V ((w.setCell ⟨L,b,none⟩ x).setCell ⟨H,b,none⟩ y) c B P Q L H n:=by
 obtain ⟨h1,h2,h3,h4,h5,h6⟩:=h.far;exact ⟨(h.x.setCell h.new.1 _).setCell h.new.2 _,(h.cs.other _ _ (fun e=>h1 e.symm)).other _ _ (fun e=>h2 e.symm),(h.p.other _ _ (fun e=>h3 e.symm)).other _ _ (fun e=>h4 e.symm),(h.q.other _ _ (fun e=>h5 e.symm)).other _ _ (fun e=>h6 e.symm),h.far,h.new⟩
theorem tY (V W:World) (c:ai) (B P Q L H n b:Nat) (f g f' g':Nat→Int) (x y:Int) (hS:nD V W c B P Q L H n) (hT:eK W L H n f g) (hn:n≤1000) (hb:b<n) (hx:lr (f b+x)) (hy:lr (g b+y))
 (hf: ∀j,j<n→(if j=b then f b+x else f j)=f' j) (hg: ∀j,j<n→(if j=b then g b+y else g j)=g' j):
 Calls prog 120 #[.int .i64 (b:Int),i64 x,i64 y,.pointer (some ⟨P,0,none⟩),.pointer (some ⟨Q,0,none⟩)] W fun e w'=>
  e= .returned (.tuple #[])∧nD V w' c B P Q L H n∧eK w' L H n f' g':=by
 refine (Bx W P Q L H n b f g x y ((hS.p.cell 0).trans rfl) ((hS.q.cell 0).trans rfl) hS.far.2.2.2.2.1 hT hn hb hx hy).mono ?_;rintro e w' ⟨he,rfl⟩;exact ⟨he,hS.set b _ _,(hT.set b _ _).congr hf hg⟩
theorem Bz (V W:World) (c:ai) (B P Q L H n b:Nat) (f g f' g':Nat→Int) (x y:Int) (hS:nD V W c B P Q L H n) (hT:eK W L H n f g) (hn:n≤1000) (hb:b<n) (hx:lr (f b+x)) (hy:lr (g b+y))
 (hf: ∀j,j<n→(if j=b then f b+x else f j)=f' j) (hg: ∀j,j<n→(if j=b then g b+y else g j)=g' j):
 Calls prog 120 #[.int .i64 (b:Int),i64 x,i64 y,.pointer (some ⟨P,0,none⟩),.pointer (some ⟨Q,0,none⟩)] W fun e w'=>
  e= .returned (.tuple #[])∧nD V w' c B P Q L H n∧eK w' L H n f' g'∧ ∀(p:Addr) (v:Value),p.block≠L→p.block≠H→W.cell? p=some v→w'.cell? p=some v:=by
 refine (Bx W P Q L H n b f g x y ((hS.p.cell 0).trans rfl) ((hS.q.cell 0).trans rfl) hS.far.2.2.2.2.1 hT hn hb hx hy).mono ?_;rintro e w' ⟨he,rfl⟩;exact ⟨he,hS.set b _ _,(hT.set b _ _).congr hf hg,fun p v h1 h2 h=>bL (bL h ((ar.refl L W).set rfl _) h1) ((ar.refl H _).set rfl _) h2⟩
end Go.Proofs.YtkpngkdgphojlaaGreat
