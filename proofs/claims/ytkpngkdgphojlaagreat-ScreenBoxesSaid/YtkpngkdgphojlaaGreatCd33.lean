/- Texts of the proof. -/
import Derived.Test.YtkpngkdgphojlaaGreatCd32
set_option linter.all false
set_option maxHeartbeats 4000000
set_option maxRecDepth 100000
namespace Go.Proofs.YtkpngkdgphojlaaGreat
open Go.Proofs.Tryz
open Go.RowKit
def rT (V:World) (c:ai) (ks:List KV) (h:Int) (e:Ending) (w':World):Prop:=
 Ext V w'∧((ox c ks h≠0∧e= .returned (.tuple #[.slice none 0 0,.slice none 0 0,i64 (ox c ks h)]))∨
  (ox c ks h=0∧ ∃L H,e= .returned (.tuple #[.slice (some ⟨L,0,none⟩) c.ak.length c.ak.length,.slice (some ⟨H,0,none⟩) c.ak.length c.ak.length,i64 0])∧eK w' L H c.ak.length (Dd c ks h.toNat) (uX c ks h.toNat)))
structure jZ (V w:World) (c:ai) (B L H:Nat):Prop where
 x:Ext V w
 cs:aJ w B 32 c.cells
 far:B≠L∧B≠H
 new:V.heap.size≤L∧V.heap.size≤H
theorem jZ.ext {V w w':World} {c:ai} {B L H:Nat} (h:jZ V w c B L H) (e:Ext w w'):jZ V w' c B L H:=⟨h.x.trans e,h.cs.ext e,h.far,h.new⟩
theorem jZ.LK {V w:World} {c:ai} {B L H:Nat} (h:jZ V w c B L H) (b:Nat) (v:Value):jZ V (w.setCell ⟨L,b,none⟩ v) c B L H:=⟨h.x.setCell h.new.1 _,h.cs.other _ _ (fun e=>h.far.1 e.symm),h.far,h.new⟩
theorem jZ.Jm {V w:World} {c:ai} {B L H:Nat} (h:jZ V w c B L H) (b:Nat) (v:Value):jZ V (w.setCell ⟨H,b,none⟩ v) c B L H:=⟨h.x.setCell h.new.2 _,h.cs.other _ _ (fun e=>h.far.2 e.symm),h.far,h.new⟩
theorem b_.far {w:World} {B K:Nat} {f:Nat→Int} {n:Nat} (h:b_ w B f n) (b:Nat) (v:Value) (hb:K≠B):b_ (w.setCell ⟨K,b,none⟩ v) B f n:=aJ.other h _ _ hb
theorem LL (V:World) (c:ai) (a:Option Addr) (kc:Nat) (ks:List KV) (h:Int) (hc:aS V c) (hl:oW c) (hk:iI V a kc ks):
 Calls prog 27 #[.agg (C8 c),.slice a ks.length kc,i64 h] V fun e w'=>rT V c ks h e w':=by
 try unfold C8
 have FZ:=hk.le;have xR:=hk.recs.cap
 have CZ:=hc.ak.le;have Hy:=hc.ak.cap
 have OQ:=hc.au.le;have S4:=hc.au.cap
 have OS:=hc.stores.le;have S5:=hc.stores.cap
 have OT:=hc.aL.le;have S9:=hc.aL.cap
 rw [List.length_map]at CZ OQ OS OT;have et:=ae hc;have HK:=ae hk
 have IV:=ae (fun U (x:Ext V U)=>xZ U c (hc.ext x) hl);have Td:=ae (fun U (x:Ext V U)=>F7 V U c a kc ks x hc hk);have Bw:Hid (ox c ks h=if mh c ks≠0 then mh c ks else if h<0∨c.hours≤h then 12 else 0):=rfl;have Cy:Hid (mh c ks=if cV c≠0 then cV c else if mg c ks=true then 0 else 4):=rfl;have OV:Hid (cV c=0→fh c):=xI;unfold rT;obtain ⟨ce,hce⟩: ∃ce,ce=cV c:=⟨_,rfl⟩;obtain ⟨ve,Du⟩: ∃ve,ve=ox c ks h:=⟨_,rfl⟩;rw [←hce]at Cy OV;rw [←Du]at Bw;rw [←Du];have HCQ:=ae hce;clear hc hl hk hce Du;go_enter func27,ntmps27
 go_upto_region 1 with fail
 obtain ⟨W,hW,x0,Z0,A0⟩:=aH V 32 c.cells;rw [show V.alloc (.cells (C8 c) 32)=W from hW.symm];obtain ⟨B,hB⟩: ∃B,B=V.heap.size:=⟨_,rfl⟩;rw [←hB]at A0⊢;have ZT:Hid (V.heap.size≤B):=by show _≤_;omega
 have HX:=ae x0;have HA:=ae A0
 clear hW x0 Z0 A0 hB;obtain ⟨k0,k1,k2,k3,k4,k5,k6,k7⟩:=ai.at HA.o;go_wp2_with fail
 refine (IV.o W HX.o).mono ?_;rintro e w1 ⟨ek,ei,ef,rfl,xx⟩;clear IV;go_upto_region 2 with fail
 obtain ⟨W2,hW2,x2,Z2,A2⟩:=aH w1 52 [i64 ek,i64 ei,i64 ef];rw [show w1.alloc (.cells #[i64 ek,i64 ei,i64 ef] 52)=W2 from hW2.symm];clear hW2 Z2 A2;rw [←HCQ.o];clear k0 k1 k2 k3 k4 k5 k6 k7;have HA:=ae (HA.o.ext (xx.trans x2));have HX:=ae (HX.o.trans (xx.trans x2))
 clear xx x2;obtain ⟨k0,k1,k2,k3,k4,k5,k6,k7⟩:=ai.at HA.o;by_cases hz:ce=0
 rotate_left
 ·have hq:mh c ks=ce:=by rw [Cy.o,if_pos hz]
  have HQ:Hid (ve=ce∧ve≠0):=by
   have h1:ve=ce:=by rw [Bw.o,if_pos (by rw [hq];exact hz),hq]
   exact ⟨h1,by rw [h1];exact hz⟩
  have tz:(ce !=0)=true:=by simpa using hz
  clear hz hq;go_wp2_with fail
  go_ret3
  exact ⟨HX.o,.inl ⟨HQ.o.2,by rw [HQ.o.1];rfl⟩⟩
 have tz:(ce !=0)=false:=by simpa using hz
 have EW:Hid (mh c ks=if mg c ks=true then 0 else 4):=by show _=_;rw [Cy.o,if_neg (fun e=>e hz)]
 have tJ:=ae (OV.o hz);clear hz Cy OV;go_wp2_with fail
 refine (Td.o W2 HX.o).mono ?_;rintro e W3 ⟨rfl,xx⟩;clear k0 k1 k2 k3 k4 k5 k6 k7 Td;have HA:=ae (HA.o.ext xx);have HX:=ae (HX.o.trans xx)
 clear xx;obtain ⟨k0,k1,k2,k3,k4,k5,k6,k7⟩:=ai.at HA.o;rcases Bool.eq_false_or_eq_true (mg c ks)with ht|ht;rotate_left
 ·have hq:mh c ks=4:=by rw [EW.o,ht];rfl
  have HQ:Hid (ve=4):=by show _=_;rw [Bw.o,hq];rfl
  rw [ht];clear ht hq;go_wp2_with fail
  go_ret3
  exact ⟨HX.o,.inl ⟨by rw [HQ.o];decide,by rw [HQ.o];rfl⟩⟩
 have hq:mh c ks=0:=by rw [EW.o,if_pos ht]
 have Va:Hid (ve=if h<0∨c.hours≤h then 12 else 0):=by show _=_;rw [Bw.o,if_neg (fun e=>e hq)]
 have HT:=ae ht;rw [ht];clear ht hq EW Bw;by_cases h1:h<0
 ·have t1:decide (h<0)=true:=decide_eq_true h1
  have HQ:Hid (ve=12):=by show _=_;rw [Va.o,if_pos (.inl h1)]
  clear h1;go_wp2_with fail
  go_ret3
  exact ⟨HX.o,.inl ⟨by rw [HQ.o];decide,by rw [HQ.o];rfl⟩⟩
 have t1:decide (h<0)=false:=decide_eq_false h1;by_cases h2:c.hours≤h
 ·have t2:decide (c.hours≤h)=true:=decide_eq_true h2
  have HQ:Hid (ve=12):=by show _=_;rw [Va.o,if_pos (.inr h2)]
  clear h1 h2;go_wp2_with fail
  go_ret3
  exact ⟨HX.o,.inl ⟨by rw [HQ.o];decide,by rw [HQ.o];rfl⟩⟩
 have t2:decide (c.hours≤h)=false:=decide_eq_false h2;have HQ:Hid (ve=0):=by show _=_;rw [Va.o,if_neg (by omega)]
 obtain ⟨hn,rfl⟩: ∃hn:Nat,h=(hn:Int):=⟨h.toNat,by omega⟩;have HH:Hid ((hn:Int)<c.hours):=by show _<_;omega
 have hb2:=tJ.o.frame.ak.2;have MM: ∀w,(Instr.makeSlice 22 (.int .i64 (c.ak.length:Int)) (.int .i64 (c.ak.length:Int))).run prog w= .ok (.slice (some ⟨w.heap.size,0,none⟩) c.ak.length c.ak.length) (w.alloc (.cells (List.replicate c.ak.length (i64 0)).toArray 3)):=fun w=>yg c.ak.length (by omega) w;clear h1 h2 Va;go_upto_region 8 with fail
 clear t1 t2 tz k0 k1 k2 k3 k4 k5 k6 k7;go_cut [6,7] (fun v6 v7 wx=> ∃L H,v6= .slice (some ⟨L,0,none⟩) c.ak.length c.ak.length∧v7= .slice (some ⟨H,0,none⟩) c.ak.length c.ak.length∧jZ V wx c B L H∧eK wx L H c.ak.length (fD c ks hn) (fD c ks hn))
 case first=>
  as_aux_lemma=>
   refine aB (fun w'=>w'.cell? ⟨B,2,none⟩=some (.slice c.ba c.ak.length c.bc)) (fun _=>True) (fun i=>false) (by kernel_rfl) (aj (Ext.refl _).drew ((HA.o.cell 2).trans rfl)) trivial (fun aq _=> ?_);refine ay 0 aq trivial ?_;refine ay 1 aq trivial ?_;refine ay 2 aq trivial ?_ (v:= .int .i64 (c.ak.length:Int));refine ay 4 aq trivial ?_;refine ay 5 aq trivial ?_;refine ay 6 aq trivial ?_ (v:= .int .i64 (c.ak.length:Int));obtain ⟨Y0,kR⟩: ∃Y0,Y0=W3.drew:=⟨_,rfl⟩;have hx:Ext W3 Y0:=by rw [kR];exact (Ext.refl W3).drew
   rw [←kR];have HA:=ae (HA.o.ext hx);have HX:=ae (HX.o.trans hx)
   clear hx kR aq;refine aQ (rs:= [3,7]) (by kernel_rfl) (by simp) ?_;refine aA.cons rfl (fun Kc hK=> ?_) (aA.cons rfl (fun Kc hK=> ?_) aA.nil)
   ·go_simp
    obtain ⟨Y1,kC,xa,-,A1⟩:=aH Y0 3 (List.replicate c.ak.length (i64 0));rw [show Y0.alloc (.cells (Array.replicate c.ak.length (i64 0)) 3)=Y1 from by rw [kC,List.toArray_replicate]];obtain ⟨L,hL⟩: ∃L,L=Y0.heap.size:=⟨_,rfl⟩;rw [←hL]at A1⊢
    have CA:Hid (B≠L∧V.heap.size≤L):=by
     have h1:=HA.o.lt;have h2:=HX.o.size
     show _∧_;omega
    have ni:=ae A1;have HA:=ae (HA.o.ext xa);have HX:=ae (HX.o.trans xa)
    clear xa kC A1 hL;refine hK.o _ _ ((HA.o.cell 2).trans rfl) trivial (fun aq _=> ?_);clear hK Kc;try simp only [sS,Act.put]
    refine ay 8 aq trivial ?_;refine dX 7 rfl (fun Kc hK=> ?_);go_simp;obtain ⟨Y2,kC,xa,-,A1⟩:=aH Y1 3 (List.replicate c.ak.length (i64 0));rw [show Y1.alloc (.cells (Array.replicate c.ak.length (i64 0)) 3)=Y2 from by rw [kC,List.toArray_replicate]];obtain ⟨H,hH⟩: ∃H,H=Y1.heap.size:=⟨_,rfl⟩;rw [←hH]at A1⊢
    have CB:Hid (B≠H∧V.heap.size≤H):=by
     have h1:=HA.o.lt;have h2:=HX.o.size
     show _∧_;omega
    have jV:Hid (L≠H):=by
     have h1:=ni.o.lt;show _≠_;omega
    have ni:=ae (ni.o.ext xa);have tK:=ae A1;have HA:=ae (HA.o.ext xa);have HX:=ae (HX.o.trans xa)
    clear xa kC A1 hH;refine hK.o _ _ ((HA.o.cell 2).trans rfl) trivial (fun aq _=> ?_);clear hK Kc;try simp only [sS,Act.put]
    refine ay 9 aq trivial ?_;refine ax (by kernel_rfl) ?_ _;go_wp2_with fail
    go_meet
    exact ⟨L,H,rfl,rfl,⟨HX.o,HA.o,⟨CA.o.1,CB.o.1⟩,⟨CA.o.2,CB.o.2⟩⟩,⟨(b_.zero (fun _=>0) ni.o).congr fun b _=>by simp [fD],(b_.zero (fun _=>0) tK.o).congr fun b _=>by simp [fD],jV.o⟩⟩
   ·go_simp
    obtain ⟨Y1,kC,xa,-,A1⟩:=aH Y0 3 (List.replicate c.ak.length (i64 0));rw [show Y0.alloc (.cells (Array.replicate c.ak.length (i64 0)) 3)=Y1 from by rw [kC,List.toArray_replicate]];obtain ⟨H,hH⟩: ∃H,H=Y0.heap.size:=⟨_,rfl⟩;rw [←hH]at A1⊢
    have CB:Hid (B≠H∧V.heap.size≤H):=by
     have h1:=HA.o.lt;have h2:=HX.o.size
     show _∧_;omega
    have tK:=ae A1;have HA:=ae (HA.o.ext xa);have HX:=ae (HX.o.trans xa)
    clear xa kC A1 hH;refine hK.o _ _ ((HA.o.cell 2).trans rfl) trivial (fun aq _=> ?_);clear hK Kc;try simp only [sS,Act.put]
    refine dX 3 rfl (fun Kc hK=> ?_);go_simp;obtain ⟨Y2,kC,xa,-,A1⟩:=aH Y1 3 (List.replicate c.ak.length (i64 0));rw [show Y1.alloc (.cells (Array.replicate c.ak.length (i64 0)) 3)=Y2 from by rw [kC,List.toArray_replicate]];obtain ⟨L,hL⟩: ∃L,L=Y1.heap.size:=⟨_,rfl⟩;rw [←hL]at A1⊢
    have CA:Hid (B≠L∧V.heap.size≤L):=by
     have h1:=HA.o.lt;have h2:=HX.o.size
     show _∧_;omega
    have jV:Hid (L≠H):=by
     have h1:=tK.o.lt;show _≠_;omega
    have tK:=ae (tK.o.ext xa);have ni:=ae A1;have HA:=ae (HA.o.ext xa);have HX:=ae (HX.o.trans xa)
    clear xa kC A1 hL;refine hK.o _ _ ((HA.o.cell 2).trans rfl) trivial (fun aq _=> ?_);clear hK Kc;try simp only [sS,Act.put]
    refine ay 8 aq trivial ?_;refine ay 9 aq trivial ?_;refine ax (by kernel_rfl) ?_ _;go_wp2_with fail
    go_meet
    exact ⟨L,H,rfl,rfl,⟨HX.o,HA.o,⟨CA.o.1,CB.o.1⟩,⟨CA.o.2,CB.o.2⟩⟩,⟨(b_.zero (fun _=>0) ni.o).congr fun b _=>by simp [fD],(b_.zero (fun _=>0) tK.o).congr fun b _=>by simp [fD],jV.o⟩⟩
 case rest=>
  obtain ⟨L,H,rfl,rfl,hS,hT⟩:=hcut;generalize wc=W1 at*;have HS:=ae hS;have sL:=ae (eK.start (ig c) (jy c ks hn) (fW c ks hn) (f0:=fD c ks hn) (g0:=fD c ks hn) hT)
  clear hS hT HA HX MM;go_wp2_with fail
  go_loopw [11] (fun ii wr=> ∃k:Nat,k≤c.au.length∧jZ V wr c B L H∧eK wr L H c.ak.length (fun b=>fD c ks hn b+a_ (ig c) (jy c ks hn) k b) (fun b=>fD c ks hn b+a_ (ig c) (fW c ks hn) k b)∧ii= .int .i64 k) (fun ii _=>c.au.length-(intOf ii).toNat)
  case atStart=>exact ⟨0,Nat.zero_le _,HS.o,sL.o,rfl⟩
  case round=>
   clear HS sL;obtain ⟨i,hi,hS,hT,rfl⟩:=hrel;obtain ⟨k0,k1,k2,k3,k4,k5,k6,k7⟩:=ai.at hS.cs;by_cases hlt:i<c.au.length
   ·obtain ⟨b,o,ha,-,u1,u2,u3,-⟩:=et.o.au.au i hlt
    have jC:=(tJ.o.unit c.au[i] (List.getElem_mem hlt)).bus;have ow:=Eo hlt;have Ke:=ae (fun U (e:Ext wr U)=>Ll V U c a kc ks i hn (hS.x.trans e) et.o HK.o hlt HT.o HH.o);have jv:jy c ks hn i=if oy c ks hn i=true then(if ks.length=0 then 0 else c.au[i].min)else 0:=by unfold jy;rw [uS hlt]
    have nK:fW c ks hn i=if oy c ks hn i=true then c.au[i].max else 0:=by unfold fW;rw [uQ hlt]
    obtain ⟨x,jc⟩: ∃x,x=c.au[i]:=⟨_,rfl⟩;rw [←jc]at u1 u2 u3 jC ow jv nK;clear jc;obtain ⟨bb,yh⟩: ∃bb:Nat,x.bus=(bb:Int):=⟨x.bus.toNat,by omega⟩;rw [yh]at u1 jC ow;have gV:=ae ow;have EU:Hid (bb<c.ak.length):=by show _<_;omega
    have bb0:(0:Int)≤(bb:Int):=by omega
    have bb1:(bb:Int)<(c.ak.length:Int):=by omega
    have Kn:=ae u1;clear u1 ow jC yh;have f_:(0:Int)≤(i:Int):=by omega
    have fU:(i:Int)<(c.au.length:Int):=by omega
    have HAD:Hid (some ⟨b,o,none⟩=c.ua):=ha.symm;have Ob:(0:Int)≤(hn:Int):=by omega
    clear ha;have HM:=ae (QQ tJ.o ks hn bb (i+1) (by omega));have lK:=ae jv;have wj:=ae nK;have Ez:=ae u2;have Iq:=ae u3
    clear jv nK u2 u3;have HS:=ae hS;have fM:=ae hT.lo;have gO:=ae hT.hi;have jV:=ae hT.ne
    clear hS hT;go_wp2_with fail
    refine (Ke.o wr (Ext.refl _)).mono ?_;rintro e W4 ⟨rfl,xx⟩;replace HS:=ae (HS.o.ext xx);replace fM:=ae (fM.o.ext xx);replace gO:=ae (gO.o.ext xx)
    clear Ke xx k0 k1 k2 k3 k4 k5 k6 k7;rcases Bool.eq_false_or_eq_true (oy c ks hn i)with hq|hq;rotate_left
    ·have hu:jy c ks hn i=0:=by rw [lK.o,hq];rfl
     have hv:fW c ks hn i=0:=by rw [wj.o,hq];rfl
     replace fM:=ae (fM.o.Ih hu);replace gO:=ae (gO.o.Ih hv)
     rw [hq];clear hq hu hv;go_wp2_with fail
     exact ⟨⟨i+1,by omega,HS.o,⟨fM.o,gO.o,jV.o⟩,by go_num⟩,by simp only [intOf];omega⟩
    ·have HV:Hid (fW c ks hn i=x.max):=by show _=_;rw [wj.o,if_pos hq]
     have HU:Hid (jy c ks hn i=if ks.length=0 then 0 else x.min):=by show _=_;rw [lK.o,if_pos hq]
     rw [hq];clear hq lK wj;go_upto_region 13 with fail
     obtain ⟨q,hq⟩: ∃q,q=fD c ks hn bb+a_ (ig c) (fW c ks hn) i bb:=⟨_,rfl⟩;have l0:W4.cell? ⟨H,bb,none⟩=some (i64 q):=by rw [hq];exact (gO.o.cell bb EU.o).1
     have hm:lr (q+x.max):=by
      have h1:=eN gV.o HV.o HM.o.2;rw [←hq]at h1;exact h1
     have tw:=hm.wrap;have wh:=ae hq;clear hm hq;refine aB (fun w'=>True) (fun w'=>w'.cell? ⟨B,4,none⟩=some (.slice (some ⟨b,o,none⟩) c.au.length c.uc)∧w'.cell? ⟨b,o+i*22+1,none⟩=some (i64 (bb:Int))∧w'.cell? ⟨b,o+i*22+3,none⟩=some (i64 x.max)∧w'.cell? ⟨H,bb,none⟩=some (i64 q)) (fun i=>i==17) (by kernel_rfl) (trivial) (⟨aj (Ext.refl _).drew ((HS.o.cs.cell 4).trans (by rw [HAD.o];rfl)),aj (Ext.refl _).drew (aj HS.o.x Kn.o),aj (Ext.refl _).drew (aj HS.o.x Iq.o),aj (Ext.refl _).drew l0⟩) (fun aq ah=> ?_);obtain ⟨Y0,kR⟩: ∃Y0,Y0=W4.drew:=⟨_,rfl⟩;have hx:Ext W4 Y0:=by rw [kR];exact (Ext.refl W4).drew
     rw [←kR]at ah⊢;replace HS:=ae (HS.o.ext hx);replace fM:=ae (fM.o.ext hx);replace gO:=ae (gO.o.ext hx)
     clear hx kR l0;refine ay 0 aq ah ?_;refine ay 1 aq ah ?_;refine kr 2 aq ah ?_;refine ay 3 aq ah ?_ (v:= .int .i64 (i:Int));refine ay 4 aq ah ?_;refine ay 5 aq ah ?_;refine kr 6 aq ah ?_ (v:=i64 (bb:Int));refine ay 7 aq ah ?_;refine kr 8 aq ah ?_ (v:=i64 q);refine ay 9 aq ah ?_;refine kr 10 aq ah ?_;refine ay 11 aq ah ?_ (v:= .int .i64 (i:Int));refine ay 12 aq ah ?_;refine ay 13 aq ah ?_;refine kr 14 aq ah ?_ (v:=i64 x.max);refine ay 15 aq ah ?_ (v:=i64 (q+x.max));refine ay 16 aq ah ?_;refine aQ (rs:= [17]) (by kernel_rfl) (by simp) ?_;refine aA.late rfl (by kernel_rfl) (fun Kc hK=> ?_) aA.nil;obtain ⟨d0,d1,d2,d3⟩:=ah;have f0:=gO.o.frozen bb;go_simp;clear f0 d0 d1 d2 d3;obtain ⟨W5,hY⟩: ∃W5,W5=Y0.setCell ⟨H,bb,none⟩ (i64 (q+x.max)):=⟨_,rfl⟩;rw [←hY]
     have vA:Hid (b_ W5 H (fun b=>fD c ks hn b+a_ (ig c) (fW c ks hn) (i+1) b) c.ak.length):=by
      show b_ _ _ _ _;rw [hY];exact (gO.o).acc bb gV.o _ (by have h1:=wh.o;have h2:=HV.o;omega)
     replace fM:=ae ((fM.o).far (K:=H) bb (i64 (q+x.max)) jV.o.symm);rw [←hY]at fM;replace HS:Hid (jZ V W5 c B L H):=by rw [hY];exact HS.o.Jm bb _
     clear hY gO wh tw;have gO:=vA;clear vA;refine hK.o _ _ (trivial) (fun aq=> ?_);clear hK Kc;try simp only [sS]
     refine ax (by kernel_rfl) ?_ _;by_cases hz:ks.length=0
     ·have tn: ¬0<ks.length:=by omega
      have hu:jy c ks hn i=0:=by rw [HU.o,if_pos hz]
      replace fM:=ae (fM.o.Ih hu);clear hz hu;go_wp2_with fail
      exact ⟨⟨i+1,by omega,HS.o,⟨fM.o,gO.o,jV.o⟩,by go_num⟩,by simp only [intOf];omega⟩
     ·have tn:0<ks.length:=by omega
      have UH:Hid (jy c ks hn i=x.min):=by show _=_;rw [HU.o,if_neg hz]
      clear hz;go_upto_region 15 with fail
      obtain ⟨q,hq⟩: ∃q,q=fD c ks hn bb+a_ (ig c) (jy c ks hn) i bb:=⟨_,rfl⟩;have l0:W5.cell? ⟨L,bb,none⟩=some (i64 q):=by rw [hq];exact (fM.o.cell bb EU.o).1
      have hm:lr (q+x.min):=by
       have h1:=eN gV.o UH.o HM.o.1;rw [←hq]at h1;exact h1
      have tw:=hm.wrap;have wh:=ae hq;clear hm hq;refine aB (fun w'=>True) (fun w'=>w'.cell? ⟨B,4,none⟩=some (.slice (some ⟨b,o,none⟩) c.au.length c.uc)∧w'.cell? ⟨b,o+i*22+1,none⟩=some (i64 (bb:Int))∧w'.cell? ⟨b,o+i*22+2,none⟩=some (i64 x.min)∧w'.cell? ⟨L,bb,none⟩=some (i64 q)) (fun i=>i==17) (by kernel_rfl) (trivial) (⟨aj (Ext.refl _).drew ((HS.o.cs.cell 4).trans (by rw [HAD.o];rfl)),aj (Ext.refl _).drew (aj HS.o.x Kn.o),aj (Ext.refl _).drew (aj HS.o.x Ez.o),aj (Ext.refl _).drew l0⟩) (fun aq ah=> ?_);obtain ⟨Y0,kR⟩: ∃Y0,Y0=W5.drew:=⟨_,rfl⟩;have hx:Ext W5 Y0:=by rw [kR];exact (Ext.refl W5).drew
      rw [←kR]at ah⊢;replace HS:=ae (HS.o.ext hx);replace fM:=ae (fM.o.ext hx);replace gO:=ae (gO.o.ext hx)
      clear hx kR l0;refine ay 0 aq ah ?_;refine ay 1 aq ah ?_;refine kr 2 aq ah ?_;refine ay 3 aq ah ?_ (v:= .int .i64 (i:Int));refine ay 4 aq ah ?_;refine ay 5 aq ah ?_;refine kr 6 aq ah ?_ (v:=i64 (bb:Int));refine ay 7 aq ah ?_;refine kr 8 aq ah ?_ (v:=i64 q);refine ay 9 aq ah ?_;refine kr 10 aq ah ?_;refine ay 11 aq ah ?_ (v:= .int .i64 (i:Int));refine ay 12 aq ah ?_;refine ay 13 aq ah ?_;refine kr 14 aq ah ?_ (v:=i64 x.min);refine ay 15 aq ah ?_ (v:=i64 (q+x.min));refine ay 16 aq ah ?_;refine aQ (rs:= [17]) (by kernel_rfl) (by simp) ?_;refine aA.late rfl (by kernel_rfl) (fun Kc hK=> ?_) aA.nil;obtain ⟨d0,d1,d2,d3⟩:=ah;have f0:=fM.o.frozen bb;go_simp;clear f0 d0 d1 d2 d3;obtain ⟨W6,hY⟩: ∃W6,W6=Y0.setCell ⟨L,bb,none⟩ (i64 (q+x.min)):=⟨_,rfl⟩;rw [←hY]
      have B7:Hid (b_ W6 L (fun b=>fD c ks hn b+a_ (ig c) (jy c ks hn) (i+1) b) c.ak.length):=by
       show b_ _ _ _ _;rw [hY];exact (fM.o).acc bb gV.o _ (by have h1:=wh.o;have h2:=UH.o;omega)
      replace gO:=ae ((gO.o).far (K:=L) bb (i64 (q+x.min)) jV.o);rw [←hY]at gO;replace HS:Hid (jZ V W6 c B L H):=by rw [hY];exact HS.o.LK bb _
      clear hY fM wh tw;have fM:=B7;clear B7;refine hK.o _ _ (trivial) (fun aq=> ?_);clear hK Kc;try simp only [sS]
      refine ax (by kernel_rfl) ?_ _;go_wp2_with fail
      exact ⟨⟨i+1,by omega,HS.o,⟨fM.o,gO.o,jV.o⟩,by go_num⟩,by simp only [intOf];omega⟩
   ·obtain rfl:i=c.au.length:=by omega
    have HS:=ae hS;have sL:=ae (eK.start (jz c) (oZ c) (kf c) (f0:=rC c ks hn) (g0:=lq c ks hn) hT)
    clear hS hT;obtain ⟨k0,k1,k2,k3,k4,k5,k6,k7⟩:=ai.at HS.o.cs;go_wp2_with fail
    clear k0 k1 k2 k3 k4 k5 k6 k7;go_loopw [12] (fun ii wr=> ∃k:Nat,k≤c.stores.length∧jZ V wr c B L H∧eK wr L H c.ak.length (fun b=>rC c ks hn b+a_ (jz c) (oZ c) k b) (fun b=>lq c ks hn b+a_ (jz c) (kf c) k b)∧ii= .int .i64 k) (fun ii _=>c.stores.length-(intOf ii).toNat)
    case atStart=>exact ⟨0,Nat.zero_le _,HS.o,sL.o,rfl⟩
    case round=>
     clear HS sL;obtain ⟨i,hi,hS,hT,rfl⟩:=hrel;obtain ⟨k0,k1,k2,k3,k4,k5,k6,k7⟩:=ai.at hS.cs;by_cases hlt:i<c.stores.length
     ·obtain ⟨b,o,ha,-,u1,-,-,-,u5,u6,-⟩:=et.o.stores.stores i hlt
      have jC:=(tJ.o.store c.stores[i] (List.getElem_mem hlt)).bus;have ow:=Ep hlt;have jv:=yR hlt;have nK:=uT hlt
      obtain ⟨x,jc⟩: ∃x,x=c.stores[i]:=⟨_,rfl⟩;rw [←jc]at u1 u5 u6 jC ow jv nK;clear jc;obtain ⟨bb,yh⟩: ∃bb:Nat,x.bus=(bb:Int):=⟨x.bus.toNat,by omega⟩;rw [yh]at u1 jC ow;have gV:=ae ow;have EU:Hid (bb<c.ak.length):=by show _<_;omega
      have bb0:(0:Int)≤(bb:Int):=by omega
      have bb1:(bb:Int)<(c.ak.length:Int):=by omega
      have Kn:=ae u1;clear u1 ow jC yh;have f_:(0:Int)≤(i:Int):=by omega
      have fU:(i:Int)<(c.stores.length:Int):=by omega
      have HAD:Hid (some ⟨b,o,none⟩=c.sa):=ha.symm;have Ob:(0:Int)≤(hn:Int):=by omega
      clear ha;have HM:=ae (QR tJ.o ks hn bb (i+1) (by omega));have lK:=ae jv;have wj:=ae nK;have HU5:=ae u5;have UG:=ae u6
      clear jv nK u5 u6;have HS:=ae hS;have fM:=ae hT.lo;have gO:=ae hT.hi;have jV:=ae hT.ne
      clear hS hT;go_upto_region 19 with fail
      clear k0 k1 k2 k3 k4 k5 k6 k7;obtain ⟨q,hq⟩: ∃q,q=rC c ks hn bb+a_ (jz c) (oZ c) i bb:=⟨_,rfl⟩;have l0:wr.cell? ⟨L,bb,none⟩=some (i64 q):=by rw [hq];exact (fM.o.cell bb EU.o).1
      have hm:lr (q-x.dg):=by
       have h1:=eN gV.o lK.o HM.o.1;rw [←hq]at h1;rwa [←Int.sub_eq_add_neg]at h1
      have tw:=hm.wrap;have wh:=ae hq;clear hm hq;refine aB (fun w'=>True) (fun w'=>w'.cell? ⟨B,5,none⟩=some (.slice (some ⟨b,o,none⟩) c.stores.length c.sc)∧w'.cell? ⟨b,o+i*9+1,none⟩=some (i64 (bb:Int))∧w'.cell? ⟨b,o+i*9+5,none⟩=some (i64 x.dg)∧w'.cell? ⟨L,bb,none⟩=some (i64 q)) (fun i=>i==17) (by kernel_rfl) (trivial) (⟨aj (Ext.refl _).drew ((HS.o.cs.cell 5).trans (by rw [HAD.o];rfl)),aj (Ext.refl _).drew (aj HS.o.x Kn.o),aj (Ext.refl _).drew (aj HS.o.x HU5.o),aj (Ext.refl _).drew l0⟩) (fun aq ah=> ?_);obtain ⟨Y0,kR⟩: ∃Y0,Y0=wr.drew:=⟨_,rfl⟩;have hx:Ext wr Y0:=by rw [kR];exact (Ext.refl wr).drew
      rw [←kR]at ah⊢;replace HS:=ae (HS.o.ext hx);replace fM:=ae (fM.o.ext hx);replace gO:=ae (gO.o.ext hx)
      clear hx kR l0;refine ay 0 aq ah ?_;refine ay 1 aq ah ?_;refine kr 2 aq ah ?_;refine ay 3 aq ah ?_ (v:= .int .i64 (i:Int));refine ay 4 aq ah ?_;refine ay 5 aq ah ?_;refine kr 6 aq ah ?_ (v:=i64 (bb:Int));refine ay 7 aq ah ?_;refine kr 8 aq ah ?_ (v:=i64 q);refine ay 9 aq ah ?_;refine kr 10 aq ah ?_;refine ay 11 aq ah ?_ (v:= .int .i64 (i:Int));refine ay 12 aq ah ?_;refine ay 13 aq ah ?_;refine kr 14 aq ah ?_ (v:=i64 x.dg);refine ay 15 aq ah ?_ (v:=i64 (q-x.dg));refine ay 16 aq ah ?_;refine aQ (rs:= [17]) (by kernel_rfl) (by simp) ?_;refine aA.late rfl (by kernel_rfl) (fun Kc hK=> ?_) aA.nil;obtain ⟨d0,d1,d2,d3⟩:=ah;have f0:=fM.o.frozen bb;go_simp;clear f0 d0 d1 d2 d3;obtain ⟨W5,hY⟩: ∃W5,W5=Y0.setCell ⟨L,bb,none⟩ (i64 (q-x.dg)):=⟨_,rfl⟩;rw [←hY]
      have B7:Hid (b_ W5 L (fun b=>rC c ks hn b+a_ (jz c) (oZ c) (i+1) b) c.ak.length):=by
       show b_ _ _ _ _;rw [hY];exact (fM.o).acc bb gV.o _ (by have h1:=wh.o;have h2:=lK.o;omega)
      replace gO:=ae ((gO.o).far (K:=L) bb (i64 (q-x.dg)) jV.o);rw [←hY]at gO;replace HS:Hid (jZ V W5 c B L H):=by rw [hY];exact HS.o.LK bb _
      clear hY fM wh tw;have fM:=B7;clear B7;refine hK.o _ _ (trivial) (fun aq=> ?_);clear hK Kc;try simp only [sS]
      refine ax (by kernel_rfl) ?_ _;go_upto_region 20 with fail
      obtain ⟨q,hq⟩: ∃q,q=lq c ks hn bb+a_ (jz c) (kf c) i bb:=⟨_,rfl⟩;have l0:W5.cell? ⟨H,bb,none⟩=some (i64 q):=by rw [hq];exact (gO.o.cell bb EU.o).1
      have hm:lr (q+x.discharge):=by
       have h1:=eN gV.o wj.o HM.o.2;rw [←hq]at h1;exact h1
      have tw:=hm.wrap;have wh:=ae hq;clear hm hq;refine aB (fun w'=>True) (fun w'=>w'.cell? ⟨B,5,none⟩=some (.slice (some ⟨b,o,none⟩) c.stores.length c.sc)∧w'.cell? ⟨b,o+i*9+1,none⟩=some (i64 (bb:Int))∧w'.cell? ⟨b,o+i*9+6,none⟩=some (i64 x.discharge)∧w'.cell? ⟨H,bb,none⟩=some (i64 q)) (fun i=>i==17) (by kernel_rfl) (trivial) (⟨aj (Ext.refl _).drew ((HS.o.cs.cell 5).trans (by rw [HAD.o];rfl)),aj (Ext.refl _).drew (aj HS.o.x Kn.o),aj (Ext.refl _).drew (aj HS.o.x UG.o),aj (Ext.refl _).drew l0⟩) (fun aq ah=> ?_);obtain ⟨Y0,kR⟩: ∃Y0,Y0=W5.drew:=⟨_,rfl⟩;have hx:Ext W5 Y0:=by rw [kR];exact (Ext.refl W5).drew
      rw [←kR]at ah⊢;replace HS:=ae (HS.o.ext hx);replace fM:=ae (fM.o.ext hx);replace gO:=ae (gO.o.ext hx)
      clear hx kR l0;refine ay 0 aq ah ?_;refine ay 1 aq ah ?_;refine kr 2 aq ah ?_;refine ay 3 aq ah ?_ (v:= .int .i64 (i:Int));refine ay 4 aq ah ?_;refine ay 5 aq ah ?_;refine kr 6 aq ah ?_ (v:=i64 (bb:Int));refine ay 7 aq ah ?_;refine kr 8 aq ah ?_ (v:=i64 q);refine ay 9 aq ah ?_;refine kr 10 aq ah ?_;refine ay 11 aq ah ?_ (v:= .int .i64 (i:Int));refine ay 12 aq ah ?_;refine ay 13 aq ah ?_;refine kr 14 aq ah ?_ (v:=i64 x.discharge);refine ay 15 aq ah ?_ (v:=i64 (q+x.discharge));refine ay 16 aq ah ?_;refine aQ (rs:= [17]) (by kernel_rfl) (by simp) ?_;refine aA.late rfl (by kernel_rfl) (fun Kc hK=> ?_) aA.nil;obtain ⟨d0,d1,d2,d3⟩:=ah;have f0:=gO.o.frozen bb;go_simp;clear f0 d0 d1 d2 d3;obtain ⟨W6,hY⟩: ∃W6,W6=Y0.setCell ⟨H,bb,none⟩ (i64 (q+x.discharge)):=⟨_,rfl⟩;rw [←hY]
      have vA:Hid (b_ W6 H (fun b=>lq c ks hn b+a_ (jz c) (kf c) (i+1) b) c.ak.length):=by
       show b_ _ _ _ _;rw [hY];exact (gO.o).acc bb gV.o _ (by have h1:=wh.o;have h2:=wj.o;omega)
      replace fM:=ae ((fM.o).far (K:=H) bb (i64 (q+x.discharge)) jV.o.symm);rw [←hY]at fM;replace HS:Hid (jZ V W6 c B L H):=by rw [hY];exact HS.o.Jm bb _
      clear hY gO wh tw;have gO:=vA;clear vA;refine hK.o _ _ (trivial) (fun aq=> ?_);clear hK Kc;try simp only [sS]
      refine ax (by kernel_rfl) ?_ _;go_wp2_with fail
      exact ⟨⟨i+1,by omega,HS.o,⟨fM.o,gO.o,jV.o⟩,by go_num⟩,by simp only [intOf];omega⟩
     ·obtain rfl:i=c.stores.length:=by omega
      have HS:=ae hS;have sL:=ae (eK.start (jW c) (o0 c hn) (kg c hn) (f0:=tF c ks hn) (g0:=mO c ks hn) hT)
      clear hS hT;obtain ⟨k0,k1,k2,k3,k4,k5,k6,k7⟩:=ai.at HS.o.cs;go_wp2_with fail
      clear k0 k1 k2 k3 k4 k5 k6 k7;go_loopw [13] (fun ii wr=> ∃k:Nat,k≤c.aL.length∧jZ V wr c B L H∧eK wr L H c.ak.length (fun b=>tF c ks hn b+a_ (jW c) (o0 c hn) k b) (fun b=>mO c ks hn b+a_ (jW c) (kg c hn) k b)∧ii= .int .i64 k) (fun ii _=>c.aL.length-(intOf ii).toNat)
      case atStart=>exact ⟨0,Nat.zero_le _,HS.o,sL.o,rfl⟩
      case round=>
       clear HS sL;obtain ⟨i,hi,hS,hT,rfl⟩:=hrel;obtain ⟨k0,k1,k2,k3,k4,k5,k6,k7⟩:=ai.at hS.cs;by_cases hlt:i<c.aL.length
       ·obtain ⟨b,o,ha,-,u1,u2,u3,-⟩:=et.o.aL.aL i hlt
        have kM:=tJ.o.tie c.aL[i] (List.getElem_mem hlt);have jC:=kM.bus;have himp:=kM.imp;have Gi:=kM.exp
        have Ji:=(et.o.tie c.aL[i] (List.getElem_mem hlt)).2.1;have Jj:=(et.o.tie c.aL[i] (List.getElem_mem hlt)).2.2.1;have ow:=Er hlt;have jv:=yS hn hlt;have nK:=uU hn hlt
        obtain ⟨x,jc⟩: ∃x,x=c.aL[i]:=⟨_,rfl⟩;rw [←jc]at u1 u2 u3 jC ow jv nK himp Gi Ji Jj;have OU:=HH.o;have iG:hn<x.imp.length:=by omega
        have G4:hn<x.exp.length:=by omega
        obtain ⟨ib,io,Jl,d2⟩:=Ji.cell hn iG;obtain ⟨eb,eo,S',d3⟩:=Jj.cell hn G4;rw [←df iG]at d2;rw [←df G4]at d3;obtain ⟨di,lF⟩: ∃d,d=aR x.imp hn:=⟨_,rfl⟩;obtain ⟨de,Ta⟩: ∃d,d=aR x.exp hn:=⟨_,rfl⟩;rw [←lF]at d2 nK;rw [←Ta]at d3 jv;rw [Jl]at u2;rw [S']at u3;have Yi:=Ji.le;have Yj:=Ji.cap;have hec:=Jj.le;have heC:=Jj.cap
        have Sn:(hn:Int)<(x.imp.length:Int):=by omega
        have bh2:(hn:Int)<(x.exp.length:Int):=by omega
        clear jc kM himp Gi Ji Jj OU iG G4 Jl S' lF Ta;obtain ⟨bb,yh⟩: ∃bb:Nat,x.bus=(bb:Int):=⟨x.bus.toNat,by omega⟩;rw [yh]at u1 jC ow;have gV:=ae ow;have EU:Hid (bb<c.ak.length):=by show _<_;omega
        have bb0:(0:Int)≤(bb:Int):=by omega
        have bb1:(bb:Int)<(c.ak.length:Int):=by omega
        have Kn:=ae u1;clear u1 ow jC yh;have f_:(0:Int)≤(i:Int):=by omega
        have fU:(i:Int)<(c.aL.length:Int):=by omega
        have HAD:Hid (some ⟨b,o,none⟩=c.ta):=ha.symm;have Ob:(0:Int)≤(hn:Int):=by omega
        clear ha;have HM:=ae (QS tJ.o ks hn bb (i+1) (by omega));have lK:=ae jv;have wj:=ae nK;have Ez:=ae u2;have Iq:=ae u3;have S0:=ae d2;have Mc:=ae d3
        clear jv nK u2 u3 d2 d3;have HS:=ae hS;have fM:=ae hT.lo;have gO:=ae hT.hi;have jV:=ae hT.ne
        clear hS hT;go_upto_region 24 with fail
        clear k0 k1 k2 k3 k4 k5 k6 k7;obtain ⟨q,hq⟩: ∃q,q=tF c ks hn bb+a_ (jW c) (o0 c hn) i bb:=⟨_,rfl⟩;have l0:wr.cell? ⟨L,bb,none⟩=some (i64 q):=by rw [hq];exact (fM.o.cell bb EU.o).1
        have hm:lr (q-de):=by
             have h1:=eN gV.o lK.o HM.o.1;rw [←hq]at h1;rwa [←Int.sub_eq_add_neg]at h1
        have tw:=hm.wrap;have wh:=ae hq;clear hm hq;refine aB (fun w'=>True) (fun w'=>w'.cell? ⟨B,6,none⟩=some (.slice (some ⟨b,o,none⟩) c.aL.length c.tc)∧w'.cell? ⟨b,o+i*5+1,none⟩=some (i64 (bb:Int))∧w'.cell? ⟨b,o+i*5+3,none⟩=some (.slice (some ⟨eb,eo,none⟩) x.exp.length x.ec)∧w'.cell? ⟨eb,eo+hn,none⟩=some (i64 de)∧w'.cell? ⟨L,bb,none⟩=some (i64 q)) (fun i=>i==20) (by kernel_rfl) (trivial) (⟨aj (Ext.refl _).drew ((HS.o.cs.cell 6).trans (by rw [HAD.o];rfl)),aj (Ext.refl _).drew (aj HS.o.x Kn.o),aj (Ext.refl _).drew (aj HS.o.x Iq.o),aj (Ext.refl _).drew (aj HS.o.x Mc.o),aj (Ext.refl _).drew l0⟩) (fun aq ah=> ?_);obtain ⟨Y0,kR⟩: ∃Y0,Y0=wr.drew:=⟨_,rfl⟩;have hx:Ext wr Y0:=by rw [kR];exact (Ext.refl wr).drew
        rw [←kR]at ah⊢;replace HS:=ae (HS.o.ext hx);replace fM:=ae (fM.o.ext hx);replace gO:=ae (gO.o.ext hx)
        clear hx kR l0;refine ay 0 aq ah ?_;refine ay 1 aq ah ?_;refine kr 2 aq ah ?_;refine ay 3 aq ah ?_ (v:= .int .i64 (i:Int));refine ay 4 aq ah ?_;refine ay 5 aq ah ?_;refine kr 6 aq ah ?_ (v:=i64 (bb:Int));refine ay 7 aq ah ?_;refine kr 8 aq ah ?_ (v:=i64 q);refine ay 9 aq ah ?_;refine kr 10 aq ah ?_;refine ay 11 aq ah ?_ (v:= .int .i64 (i:Int));refine ay 12 aq ah ?_;refine ay 13 aq ah ?_;refine kr 14 aq ah ?_;refine ay 15 aq ah ?_ (v:= .int .i64 (hn:Int));refine ay 16 aq ah ?_;refine kr 17 aq ah ?_ (v:=i64 de);refine ay 18 aq ah ?_ (v:=i64 (q-de));refine ay 19 aq ah ?_;refine aQ (rs:= [20]) (by kernel_rfl) (by simp) ?_;refine aA.late rfl (by kernel_rfl) (fun Kc hK=> ?_) aA.nil;obtain ⟨d0,d1,d2,d3,d4⟩:=ah;have f0:=fM.o.frozen bb;go_simp;clear f0 d0 d1 d2 d3 d4;obtain ⟨W5,hY⟩: ∃W5,W5=Y0.setCell ⟨L,bb,none⟩ (i64 (q-de)):=⟨_,rfl⟩;rw [←hY]
        have B7:Hid (b_ W5 L (fun b=>tF c ks hn b+a_ (jW c) (o0 c hn) (i+1) b) c.ak.length):=by
             show b_ _ _ _ _;rw [hY];exact (fM.o).acc bb gV.o _ (by have h1:=wh.o;have h2:=lK.o;omega)
        replace gO:=ae ((gO.o).far (K:=L) bb (i64 (q-de)) jV.o);rw [←hY]at gO;replace HS:Hid (jZ V W5 c B L H):=by rw [hY];exact HS.o.LK bb _
        clear hY fM wh tw;have fM:=B7;clear B7;refine hK.o _ _ (trivial) (fun aq=> ?_);clear hK Kc;try simp only [sS]
        refine ax (by kernel_rfl) ?_ _;go_upto_region 25 with fail
        obtain ⟨q,hq⟩: ∃q,q=mO c ks hn bb+a_ (jW c) (kg c hn) i bb:=⟨_,rfl⟩;have l0:W5.cell? ⟨H,bb,none⟩=some (i64 q):=by rw [hq];exact (gO.o.cell bb EU.o).1
        have hm:lr (q+di):=by
             have h1:=eN gV.o wj.o HM.o.2;rw [←hq]at h1;exact h1
        have tw:=hm.wrap;have wh:=ae hq;clear hm hq;refine aB (fun w'=>True) (fun w'=>w'.cell? ⟨B,6,none⟩=some (.slice (some ⟨b,o,none⟩) c.aL.length c.tc)∧w'.cell? ⟨b,o+i*5+1,none⟩=some (i64 (bb:Int))∧w'.cell? ⟨b,o+i*5+2,none⟩=some (.slice (some ⟨ib,io,none⟩) x.imp.length x.ic)∧w'.cell? ⟨ib,io+hn,none⟩=some (i64 di)∧w'.cell? ⟨H,bb,none⟩=some (i64 q)) (fun i=>i==20) (by kernel_rfl) (trivial) (⟨aj (Ext.refl _).drew ((HS.o.cs.cell 6).trans (by rw [HAD.o];rfl)),aj (Ext.refl _).drew (aj HS.o.x Kn.o),aj (Ext.refl _).drew (aj HS.o.x Ez.o),aj (Ext.refl _).drew (aj HS.o.x S0.o),aj (Ext.refl _).drew l0⟩) (fun aq ah=> ?_);obtain ⟨Y0,kR⟩: ∃Y0,Y0=W5.drew:=⟨_,rfl⟩;have hx:Ext W5 Y0:=by rw [kR];exact (Ext.refl W5).drew
        rw [←kR]at ah⊢;replace HS:=ae (HS.o.ext hx);replace fM:=ae (fM.o.ext hx);replace gO:=ae (gO.o.ext hx)
        clear hx kR l0;refine ay 0 aq ah ?_;refine ay 1 aq ah ?_;refine kr 2 aq ah ?_;refine ay 3 aq ah ?_ (v:= .int .i64 (i:Int));refine ay 4 aq ah ?_;refine ay 5 aq ah ?_;refine kr 6 aq ah ?_ (v:=i64 (bb:Int));refine ay 7 aq ah ?_;refine kr 8 aq ah ?_ (v:=i64 q);refine ay 9 aq ah ?_;refine kr 10 aq ah ?_;refine ay 11 aq ah ?_ (v:= .int .i64 (i:Int));refine ay 12 aq ah ?_;refine ay 13 aq ah ?_;refine kr 14 aq ah ?_;refine ay 15 aq ah ?_ (v:= .int .i64 (hn:Int));refine ay 16 aq ah ?_;refine kr 17 aq ah ?_ (v:=i64 di);refine ay 18 aq ah ?_ (v:=i64 (q+di));refine ay 19 aq ah ?_;refine aQ (rs:= [20]) (by kernel_rfl) (by simp) ?_;refine aA.late rfl (by kernel_rfl) (fun Kc hK=> ?_) aA.nil;obtain ⟨d0,d1,d2,d3,d4⟩:=ah;have f0:=gO.o.frozen bb;go_simp;clear f0 d0 d1 d2 d3 d4;obtain ⟨W6,hY⟩: ∃W6,W6=Y0.setCell ⟨H,bb,none⟩ (i64 (q+di)):=⟨_,rfl⟩;rw [←hY]
        have vA:Hid (b_ W6 H (fun b=>mO c ks hn b+a_ (jW c) (kg c hn) (i+1) b) c.ak.length):=by
             show b_ _ _ _ _;rw [hY];exact (gO.o).acc bb gV.o _ (by have h1:=wh.o;have h2:=wj.o;omega)
        replace fM:=ae ((fM.o).far (K:=H) bb (i64 (q+di)) jV.o.symm);rw [←hY]at fM;replace HS:Hid (jZ V W6 c B L H):=by rw [hY];exact HS.o.Jm bb _
        clear hY gO wh tw;have gO:=vA;clear vA;refine hK.o _ _ (trivial) (fun aq=> ?_);clear hK Kc;try simp only [sS]
        refine ax (by kernel_rfl) ?_ _;go_wp2_with fail
        exact ⟨⟨i+1,by omega,HS.o,⟨fM.o,gO.o,jV.o⟩,by go_num⟩,by simp only [intOf];omega⟩
       ·obtain rfl:i=c.aL.length:=by omega
        have HS:=ae hS;have sL:=ae (eK.start (fun k=>(k:Int)) (jJ c hn) (dD c hn) (f0:=kh c ks hn) (g0:=dK c ks hn) hT)
        clear hS hT;obtain ⟨k0,k1,k2,k3,k4,k5,k6,k7⟩:=ai.at HS.o.cs;go_wp2_with fail
        clear k0 k1 k2 k3 k4 k5 k6 k7;go_loopw [14] (fun ii wr=> ∃k:Nat,k≤c.ak.length∧jZ V wr c B L H∧eK wr L H c.ak.length (fun b=>kh c ks hn b+a_ (fun k=>(k:Int)) (jJ c hn) k b) (fun b=>dK c ks hn b+a_ (fun k=>(k:Int)) (dD c hn) k b)∧ii= .int .i64 k) (fun ii _=>c.ak.length-(intOf ii).toNat)
        case atStart=>exact ⟨0,Nat.zero_le _,HS.o,sL.o,rfl⟩
        case round=>
             clear HS sL;obtain ⟨i,hi,hS,hT,rfl⟩:=hrel;obtain ⟨k0,k1,k2,k3,k4,k5,k6,k7⟩:=ai.at hS.cs;by_cases hlt:i<c.ak.length
             ·obtain ⟨b,o,ha,-,c1,c2⟩:=et.o.ak.ak i hlt
              have kM:=tJ.o.bus c.ak[i] (List.getElem_mem hlt);have lF:=(et.o.bus c.ak[i] (List.getElem_mem hlt)).2.1;have jv:jJ c hn i= -aR c.ak[i].bP hn:=by unfold jJ;rw [uV hn hlt]
              have nK:dD c hn i=if 0<c.ak[i].gC then 0 else-aR c.ak[i].bP hn:=by unfold dD;rw [uV hn hlt,xN hlt]
              obtain ⟨x,jc⟩: ∃x,x=c.ak[i]:=⟨_,rfl⟩;rw [←jc]at c1 c2 kM lF jv nK;have OU:=HH.o;have iG:hn<x.bP.length:=by omega
              have Jk:=pX kM.2.1 hn iG;obtain ⟨ib,io,Jl,d0⟩:=lF.cell hn iG;rw [←df iG]at d0;obtain ⟨d,hd⟩: ∃d,d=aR x.bP hn:=⟨_,rfl⟩;rw [←hd]at d0 jv nK Jk;rw [Jl]at c1;rw [ha]at k2;have Yi:=lF.le;have Yj:=lF.cap
              have HM:=ae (KZ tJ.o ks hn i i (by omega));have MK:=ae (KZ tJ.o ks hn i (i+1) (by omega))
              have f_:(0:Int)≤(i:Int):=by omega
              have fU:(i:Int)<(c.ak.length:Int):=by omega
              have Ob:(0:Int)≤(hn:Int):=by omega
              have Sn:(hn:Int)<(x.bP.length:Int):=by omega
              have U':=ae Jk;have yN:=ae hlt
              have lK:=ae jv;have wj:=ae nK
              have c1:=aj hS.x c1;have c2:=aj hS.x c2;have d0:=aj hS.x d0;have HS:=ae hS;have fM:=ae hT.lo;have gO:=ae hT.hi;have jV:=ae hT.ne
              clear hS hT;clear jv nK jc kM lF Jl Jk hd OU iG ha;go_upto_if 203 with fail
              go_cut [] (fun wx=>jZ V wx c B L H∧b_ wx L (fun b=>kh c ks hn b+a_ (fun k=>(k:Int)) (jJ c hn) i b) c.ak.length∧b_ wx H (fun b=>if b=i then dK c ks hn i+a_ (fun k=>(k:Int)) (dD c hn) i i+(if 0<x.gC then d else 0)else dK c ks hn b+a_ (fun k=>(k:Int)) (dD c hn) i b) c.ak.length)
              case first=>
               as_aux_lemma=>
                by_cases hz:0<x.gC
                ·obtain ⟨q,hq⟩: ∃q,q=dK c ks hn i+a_ (fun k=>(k:Int)) (dD c hn) i i:=⟨_,rfl⟩
                 obtain ⟨Sx,f0⟩:=gO.o.cell i yN.o
                 have hm:lr (q+d):=by
                      have h1:=HM.o.2.2;have h2:=U'.o;rw [←hq]at h1;unfold lr;omega
                 have tw:=hm.wrap;have h0:wr.cell? ⟨H,i,none⟩=some (i64 q):=by rw [hq];exact Sx
                 have HG:Hid (b_ (wr.setCell ⟨H,i,none⟩ (i64 (q+d))) H (fun b=>if b=i then dK c ks hn i+a_ (fun k=>(k:Int)) (dD c hn) i i+(if 0<x.gC then d else 0)else dK c ks hn b+a_ (fun k=>(k:Int)) (dD c hn) i b) c.ak.length):=
                      (b_.set gO.o i (q+d)).congr fun j _=>by
                        show(if j=i then q+d else _)=_;rw [if_pos hz,←hq]
                 have PW:Hid (jZ V (wr.setCell ⟨H,i,none⟩ (i64 (q+d))) c B L H):=HS.o.Jm i _;have IM:Hid (b_ (wr.setCell ⟨H,i,none⟩ (i64 (q+d))) L (fun b=>kh c ks hn b+a_ (fun k=>(k:Int)) (jJ c hn) i b) c.ak.length):=fM.o.far (K:=H) i (i64 (q+d)) jV.o.symm;clear hm hq HS fM gO Sx;go_wp2_with fail
                 go_meet
                 exact ⟨PW.o,IM.o,HG.o⟩
                ·have HG:Hid (b_ wr H (fun b=>if b=i then dK c ks hn i+a_ (fun k=>(k:Int)) (dD c hn) i i+(if 0<x.gC then d else 0)else dK c ks hn b+a_ (fun k=>(k:Int)) (dD c hn) i b) c.ak.length):=
                      gO.o.congr fun j _=>by
                       show dK c ks hn j+a_ (fun k=>(k:Int)) (dD c hn) i j=_;rw [if_neg hz];by_cases e:j=i
                       ·subst e;rw [if_pos rfl];omega
                       ·rw [if_neg e]
                 go_wp2_with fail
                 go_meet
                 exact ⟨HS.o,fM.o,HG.o⟩
              case rest=>
               obtain ⟨hS,hL,hH⟩:=hcut;generalize wc=W6 at*;replace HS:=ae hS;replace fM:=ae hL;replace gO:=ae hH
               clear hS hL hH c1 c2 d0 k0 k1 k2 k3 k4 k5 k6 k7;obtain ⟨p,hp⟩: ∃p,p=kh c ks hn i+a_ (fun k=>(k:Int)) (jJ c hn) i i:=⟨_,rfl⟩;obtain ⟨q,hq⟩: ∃q,q=dK c ks hn i+a_ (fun k=>(k:Int)) (dD c hn) i i+(if 0<x.gC then d else 0):=⟨_,rfl⟩;have l0:W6.cell? ⟨L,i,none⟩=some (i64 p):=by rw [hp];exact (fM.o.cell i yN.o).1
               have l1:W6.cell? ⟨H,i,none⟩=some (i64 q):=by
                have h1:=(gO.o.cell i yN.o).1;rw [if_pos rfl,←hq]at h1;exact h1
               have hmp:lr (p-d):=by
                have h1:=HM.o.1;have h2:=MK.o.1;rw [fq (f0:=kh c ks hn) (bus:=fun k=>(k:Int)) rfl lK.o i,if_pos rfl,←hp]at h2
                rwa [←Int.sub_eq_add_neg]at h2
               have hmq:lr (q-d):=by
                have h1:=HM.o.2.2;have h2:=U'.o
                rw [hq];unfold lr;split<;>omega
               have tp:=hmp.wrap;have tq:=hmq.wrap;have vA:Hid (b_ W6 H (fun b=>if b=i then q else dK c ks hn b+a_ (fun k=>(k:Int)) (dD c hn) i b) c.ak.length):=by rw [hq];exact gO.o
               clear gO;have gO:=vA;clear vA;have HPP:=ae hp;have wE:=ae hq
               have wh:Hid (q=if i=i then q else dK c ks hn i+a_ (fun k=>(k:Int)) (dD c hn) i i):=by show _=_;rw [if_pos rfl]
               clear hmp hmq hp hq;go_upto_region 32 with fail
               refine aB (fun w'=>True) (fun w'=>w'.cell? ⟨L,i,none⟩=some (i64 p)∧w'.cell? ⟨H,i,none⟩=some (i64 q)) (fun i=>i==17||i==19) (by kernel_rfl) (trivial) (⟨aj (Ext.refl _).drew l0,aj (Ext.refl _).drew l1⟩) (fun aq ah=> ?_);obtain ⟨Y0,kR⟩: ∃Y0,Y0=W6.drew:=⟨_,rfl⟩;have hx:Ext W6 Y0:=by rw [kR];exact (Ext.refl W6).drew
               rw [←kR]at ah⊢;replace HS:=ae (HS.o.ext hx);replace fM:=ae (fM.o.ext hx);replace gO:=ae (gO.o.ext hx)
               clear hx kR l0 l1;refine ay 0 aq ah ?_;refine ay 1 aq ah ?_ (v:= .int .i64 (i:Int));refine ay 2 aq ah ?_;refine ay 3 aq ah ?_ (v:= .int .i64 (i:Int));refine ay 4 aq ah ?_;refine ay 5 aq ah ?_ (v:= .int .i64 (i:Int));refine ay 6 aq ah ?_;refine kr 7 aq ah ?_ (v:=i64 p);refine ay 8 aq ah ?_ (v:=i64 d);refine ay 9 aq ah ?_ (v:=i64 (p-d));refine ay 10 aq ah ?_;refine ay 11 aq ah ?_ (v:= .int .i64 (i:Int));refine ay 12 aq ah ?_;refine kr 13 aq ah ?_ (v:=i64 q);refine ay 14 aq ah ?_ (v:=i64 d);refine ay 15 aq ah ?_ (v:=i64 (q-d));refine ay 16 aq ah ?_;refine aQ (rs:= [17]) (by kernel_rfl) (by simp) ?_;refine aA.late rfl (by kernel_rfl) (fun Kc hK=> ?_) aA.nil;have c0:Y0.cell? ⟨L,i,none⟩=some (i64 p):=by exact ah.1
               have f0:=fM.o.frozen i;go_simp;clear f0 c0;obtain ⟨Y1,hY⟩: ∃Y1,Y1=Y0.setCell ⟨L,i,none⟩ (i64 (p-d)):=⟨_,rfl⟩;rw [←hY];replace fM:=ae (b_.set fM.o i (p-d));rw [←hY]at fM;replace gO:=ae (gO.o.far (K:=L) i (i64 (p-d)) jV.o);rw [←hY]at gO;replace HS:Hid (jZ V Y1 c B L H):=by rw [hY];exact HS.o.LK i _
               clear hY;refine hK.o _ _ (trivial) (fun aq=> ?_);clear hK Kc;try simp only [sS]
               refine Vv 18 aq ?_;refine aQ (rs:= [19]) (by kernel_rfl) (by simp) ?_;refine aA.late rfl (by kernel_rfl) (fun Kc hK=> ?_) aA.nil;have c0:Y1.cell? ⟨H,i,none⟩=some (i64 q):=by rw [wh.o];exact (gO.o.cell i yN.o).1
               have f0:=gO.o.frozen i;go_simp;clear f0 c0;obtain ⟨Y2,hY⟩: ∃Y2,Y2=Y1.setCell ⟨H,i,none⟩ (i64 (q-d)):=⟨_,rfl⟩;rw [←hY];replace gO:=ae (b_.set gO.o i (q-d));rw [←hY]at gO;replace fM:=ae (fM.o.far (K:=H) i (i64 (q-d)) jV.o.symm);rw [←hY]at fM;replace HS:Hid (jZ V Y2 c B L H):=by rw [hY];exact HS.o.Jm i _
               clear hY;refine hK.o _ _ (trivial) (fun aq=> ?_);clear hK Kc;try simp only [sS]
               refine ax (by kernel_rfl) ?_ _
               have VL:Hid (b_ Y2 L (fun b=>kh c ks hn b+a_ (fun k=>(k:Int)) (jJ c hn) (i+1) b) c.ak.length):=fM.o.congr fun j _=>by
                show(if j=i then p-d else kh c ks hn j+a_ (fun k=>(k:Int)) (jJ c hn) i j)=_;rw [fq (f0:=kh c ks hn) (bus:=fun k=>(k:Int)) rfl lK.o j];by_cases e:j=i
                ·subst e;rw [if_pos rfl,if_pos rfl,HPP.o];omega
                ·rw [if_neg e,if_neg e]
               have HH1:Hid (b_ Y2 H (fun b=>dK c ks hn b+a_ (fun k=>(k:Int)) (dD c hn) (i+1) b) c.ak.length):=gO.o.congr fun j _=>by
                show(if j=i then q-d else if j=i then q else dK c ks hn j+a_ (fun k=>(k:Int)) (dD c hn) i j)=_;by_cases hz:0<x.gC
                ·have hv:=wj.o;rw [if_pos hz]at hv
                 have h2:=wE.o;rw [if_pos hz]at h2
                 rw [fq (f0:=dK c ks hn) (bus:=fun k=>(k:Int)) rfl hv j];by_cases e:j=i
                 ·subst e;rw [if_pos rfl,if_pos rfl];omega
                 ·rw [if_neg e,if_neg e,if_neg e]
                ·have hv:=wj.o;rw [if_neg hz]at hv
                 have h2:=wE.o;rw [if_neg hz]at h2
                 rw [fq (f0:=dK c ks hn) (bus:=fun k=>(k:Int)) rfl hv j];by_cases e:j=i
                 ·subst e;rw [if_pos rfl,if_pos rfl];omega
                 ·rw [if_neg e,if_neg e,if_neg e]
               clear fM gO HPP wE wh tp tq;go_wp2_with fail
               exact ⟨⟨i+1,by omega,HS.o,⟨VL.o,HH1.o,jV.o⟩,by go_num⟩,by simp only [intOf];omega⟩
             ·obtain rfl:i=c.ak.length:=by omega
              have HS:=ae hS;have mQ:Hid (eK wr L H c.ak.length (Dd c ks hn) (uX c ks hn)):=hT
              clear hS hT;go_wp2_with fail
              go_ret3
              exact ⟨HS.o.x,.inr ⟨HQ.o,L,H,rfl,mQ.o⟩⟩
theorem OX (V:World) (c:ai) (a:Option Addr) (kc:Nat) (ks:List KV) (h:Int) (hc:aS V c) (hl:oW c) (hk:iI V a kc ks):
 Calls prog 26 #[.agg (C8 c),.slice a ks.length kc,i64 h] V fun e w'=>rT V c ks h e w':=by
 try unfold C8
 have FZ:=hk.le;have xR:=hk.recs.cap
 have IV:=ae (fun U (x:Ext V U)=>ze U c a kc ks h (hc.ext x) hl (hk.ext x));have Qa:=ae (fun U (x:Ext V U) (e:ox c ks h=0)=>OP V U c a kc ks h.toNat x hc (xI (xM (nX e).1).1) hk (xM (nX e).1).2 (by have:=nX e;omega));have Yl:Hid (ox c ks h=0→((h.toNat:Nat):Int)=h):=fun e=>by have:=nX e;omega
 unfold rT;obtain ⟨ve,Du⟩: ∃ve,ve=ox c ks h:=⟨_,rfl⟩;rw [←Du]at Qa Yl⊢;have Bw:=ae Du;clear hc hl hk Du;go_enter func26,ntmps26
 go_upto_region 1 with fail
 obtain ⟨W,hW,x0,Z0,A0⟩:=aH V 32 c.cells;rw [show V.alloc (.cells (C8 c) 32)=W from hW.symm];obtain ⟨B,hB⟩: ∃B,B=V.heap.size:=⟨_,rfl⟩;rw [←hB]at A0⊢;have HX:=ae x0;have HA:=ae A0
 clear hW x0 Z0 A0 hB;have k0:=ai.at HA.o;go_wp2_with fail
 refine (IV.o W HX.o).mono ?_;rintro e w1 ⟨rfl,xx⟩;clear IV;rw [←Bw.o];clear k0;have HA:=ae (HA.o.ext xx);have HX:=ae (HX.o.trans xx)
 clear xx;have k0:=ai.at HA.o;by_cases hz:ve=0
 rotate_left
 ·have tz:(ve !=0)=true:=by simpa using hz
  have HZ:=ae hz;clear hz;go_wp2_with fail
  go_ret3
  exact ⟨HX.o,.inl ⟨HZ.o,rfl⟩⟩
 have tz:(ve !=0)=false:=by simpa using hz
 have HB:=ae (Qa.o w1 HX.o hz);have hn:=Yl.o hz;rw [hn]at HB;have HZ:=ae hz;clear hz Qa Yl hn;go_wp2_with fail
 refine HB.o.mono ?_;rintro e w2 ⟨L,H,rfl,hT,xx⟩;have HT:=ae hT;have fg:=ae (HX.o.trans xx)
 clear hT xx HB k0;go_wp2_with fail
 go_ret3
 exact ⟨fg.o,.inr ⟨HZ.o,L,H,by rw [HZ.o];rfl,HT.o⟩⟩
theorem zG (w:World) (L M n:Nat) (f:Nat→Int) (hA:b_ w L f n) (hB:b_ w M f n) (hl:n≤1000000):
 Calls prog 76 #[.slice (some ⟨L,0,none⟩) n n,.slice (some ⟨M,0,none⟩) n n] w fun e w'=>e= .returned (.bool true)∧Ext w w':=by
 have HA:=ae hA;have HB:=ae hB
 clear hA hB;go_enter func76,ntmps76
 go_wp2_with fail
 go_loopw [5] (fun i wr=> ∃j:Nat,j≤n∧i= .int .i64 j∧Quiet w wr) (fun i _=>n-(intOf i).toNat)
 case atStart=>exact ⟨0,Nat.zero_le _,rfl,Quiet.refl _⟩
 case round=>
  obtain ⟨j,hj,rfl,hq⟩:=hrel;by_cases h0:j<n
  ·obtain ⟨hc,-⟩:=(HA.o.ext hq.ext).cell j h0
   obtain ⟨hc',-⟩:=(HB.o.ext hq.ext).cell j h0;have g1:(j:Int)<(n:Int):=by omega
   have g2:(0:Int)≤(j:Int):=by omega
   go_wp2
   go_quiet (fail)
   go_wp2
   exact ⟨⟨j+1,by omega,rfl,hq.drewN _⟩,by simp only [intOf];omega⟩
  ·have hj':j=n:=by omega
   subst hj';go_wp2
   go_ret;exact ⟨rfl,hq.ext⟩
theorem zH (w:World):
 Calls prog 76 #[.slice none 0 0,.slice none 0 0] w fun e w'=>e= .returned (.bool true)∧Ext w w':=by
 go_enter func76,ntmps76
 go_wp2_with fail
 go_loopw [5] (fun i wr=>i= .int .i64 0∧Ext w wr) (fun _ _=>0)
 case atStart=>exact ⟨rfl,Ext.refl _⟩
 case round=>
  obtain ⟨rfl,hq⟩:=hrel;go_wp2
  go_ret;exact ⟨rfl,hq⟩
def n_ (w:World) (va vb:Value):Prop:=(va= .slice none 0 0∧vb= .slice none 0 0)∨ ∃(L M n:Nat) (f:Nat→Int),va= .slice (some ⟨L,0,none⟩) n n∧vb= .slice (some ⟨M,0,none⟩) n n∧n≤1000000∧b_ w L f n∧b_ w M f n
theorem n_.ext {w w':World} {va vb:Value} (h:n_ w va vb) (x:Ext w w'):n_ w' va vb:=by
 rcases h with h|⟨L,M,n,f,h1,h2,h3,h4,h5⟩
 ·exact .inl h
 ·exact .inr ⟨L,M,n,f,h1,h2,h3,h4.ext x,h5.ext x⟩
theorem qA (w:World) (va vb:Value) (h:n_ w va vb):
 Calls prog 29 #[va,vb] w fun e w'=>e= .returned (.bool true)∧Ext w w':=by
 rcases h with⟨rfl,rfl⟩|⟨L,M,n,f,rfl,rfl,h3,h4,h5⟩
 ·go_enter func29,ntmps29
  go_wp2_with fail
  refine (zH _).mono ?_;rintro e w1 ⟨rfl,hX⟩;go_wp2_with fail
  go_ret;exact ⟨rfl,hX⟩
 ·go_enter func29,ntmps29
  go_wp2_with fail
  refine (zG _ _ _ _ f h4 h5 h3).mono ?_;rintro e w1 ⟨rfl,hX⟩;go_wp2_with fail
  go_ret;exact ⟨rfl,hX⟩
def B8 (w:World) (c:ai) (ks:List KV) (h:Int) (va vb:Value):Prop:=
 (ox c ks h≠0∧va= .slice none 0 0∧vb= .slice none 0 0)∨(ox c ks h=0∧ ∃L H,va= .slice (some ⟨L,0,none⟩) c.ak.length c.ak.length∧vb= .slice (some ⟨H,0,none⟩) c.ak.length c.ak.length∧eK w L H c.ak.length (Dd c ks h.toNat) (uX c ks h.toNat))
theorem B8.ext {w w':World} {c:ai} {ks:List KV} {h:Int} {va vb:Value} (q:B8 w c ks h va vb) (x:Ext w w'):B8 w' c ks h va vb:=by
 rcases q with q|⟨q1,L,H,q2,q3,q4⟩
 ·exact .inl q
 ·exact .inr ⟨q1,L,H,q2,q3,q4.ext x⟩
theorem rT.vals {V w':World} {c:ai} {ks:List KV} {h:Int} {e:Ending} (q:rT V c ks h e w'):Ext V w'∧ ∃va vb,e= .returned (.tuple #[va,vb,i64 (ox c ks h)])∧B8 w' c ks h va vb:=by
 obtain ⟨x,⟨h0,rfl⟩|⟨h0,L,H,rfl,hT⟩⟩:=q
 ·exact ⟨x,_,_,rfl,.inl ⟨h0,rfl,rfl⟩⟩
 ·exact ⟨x,_,_,by rw [h0],.inr ⟨h0,L,H,rfl,rfl,hT⟩⟩
theorem B8.two {w:World} {c:ai} {ks:List KV} {h:Int} {va vb Vb Vc:Value} (hn:c.ak.length≤1000000) (q:B8 w c ks h va vb) (r:B8 w c ks h Vb Vc):n_ w va Vb∧n_ w vb Vc:=by
 rcases q with⟨q1,q2,q3⟩|⟨q1,L,H,q2,q3,q4⟩
 ·rcases r with⟨r1,r2,r3⟩|⟨r1,L',H',r2,r3,r4⟩
  ·exact ⟨.inl ⟨q2,r2⟩,.inl ⟨q3,r3⟩⟩
  ·exact absurd r1 q1
 ·rcases r with⟨r1,r2,r3⟩|⟨r1,L',H',r2,r3,r4⟩
  ·exact absurd q1 r1
  ·exact ⟨.inr ⟨L,L',_,_,q2,r2,hn,q4.lo,r4.lo⟩,.inr ⟨H,H',_,_,q3,r3,hn,q4.hi,r4.hi⟩⟩
theorem iI.off {w w':World} {a:Option Addr} {c K:Nat} {ks:List KV} (h:iI w a c ks) (x:ar K w w') (hb:0<ks.length→ ∀p,a=some p→p.block≠K) (hr: ∀k∈ks,0<k.l.length→ ∀p,k.a=some p→p.block≠K):iI w' a c ks:=by
 constructor
 ·by_cases h0:0<ks.length
  ·exact h.recs.but x (hb h0)
  ·exact ⟨h.recs.le,h.recs.cap,fun i hi=>absurd hi (by rw [List.length_map];omega)⟩
 ·intro k hk
  by_cases h0:0<k.l.length
  ·exact (h.row k hk).dA x (hr k hk h0)
  ·have h1:=h.row k hk
   exact ⟨h1.le,h1.cap,fun i hi=>absurd hi (by omega),fun i hi=>absurd hi (by omega)⟩
theorem iI.OY {V:World} {a:Option Addr} {c M:Nat} {ks:List KV} (h:iI V a c ks) (hM:V.heap.size≤M):(0<ks.length→ ∀p,a=some p→p.block≠M)∧ ∀k∈ks,0<k.l.length→ ∀p,k.a=some p→p.block≠M:=by
 constructor
 ·intro h0 p hp
  obtain ⟨b,o,x,-,ha,hc⟩:=h.at 0 h0;rw [hp]at ha;cases ha
  have:b<V.heap.size:=bm hc;show b≠M;omega
 ·intro k hk h0 p hp
  obtain ⟨b,o,ha,hc⟩:=(h.row k hk).cell 0 h0;rw [hp]at ha;cases ha
  have:b<V.heap.size:=bm hc;show b≠M;omega
end Go.Proofs.YtkpngkdgphojlaaGreat
