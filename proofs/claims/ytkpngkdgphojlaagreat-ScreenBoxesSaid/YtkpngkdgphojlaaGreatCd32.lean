/- Texts of the proof. -/
import Derived.Test.YtkpngkdgphojlaaGreatCd25
import Derived.Test.YtkpngkdgphojlaaGreatCd31
set_option linter.all false
set_option maxHeartbeats 4000000
set_option maxRecDepth 100000
namespace Go.Proofs.YtkpngkdgphojlaaGreat
open Go.Proofs.Tryz
open Go.RowKit
theorem OP (w0 V:World) (c:ai) (a:Option Addr) (kc:Nat) (ks:List KV) (h:Nat) (hV:Ext w0 V) (hc:aS w0 c) (kM:fh c) (hk:iI w0 a kc ks) (ht:mg c ks=true) (hh:(h:Int)<c.hours):
 Calls prog 69 #[.agg (C8 c),.slice a ks.length kc,.int .i64 (h:Int)] V fun e w'=> ∃L H,e= .returned (.tuple #[.slice (some ⟨L,0,none⟩) c.ak.length c.ak.length,.slice (some ⟨H,0,none⟩) c.ak.length c.ak.length])∧eK w' L H c.ak.length (Dd c ks h) (uX c ks h)∧Ext V w':=by
 try unfold C8
 have CZ:=hc.ak.le;have Hy:=hc.ak.cap
 have OQ:=hc.au.le;have S4:=hc.au.cap
 have OS:=hc.stores.le;have S5:=hc.stores.cap
 have OT:=hc.aL.le;have S9:=hc.aL.cap
 rw [List.length_map]at CZ OQ OS OT;have FZ:=hk.le;have xR:=hk.recs.cap
 have hb2:=kM.frame.ak.2;have MM: ∀w,(Instr.makeSlice 22 (.int .i64 (c.ak.length:Int)) (.int .i64 (c.ak.length:Int))).run prog w= .ok (.slice (some ⟨w.heap.size,0,none⟩) c.ak.length c.ak.length) (w.alloc (.cells (List.replicate c.ak.length (i64 0)).toArray 3)):=fun w=>yg c.ak.length (by omega) w;have tJ:=ae kM;have et:=ae hc;have HV:=ae hV;have HK:=ae hk;have HT:=ae ht;have HH:=ae hh
 clear kM hc hV hk ht hh;go_enter func69,ntmps69
 go_upto_region 1 with fail
 obtain ⟨W,hW,x0,-,A0,A1,A2⟩:=eT V 32 c.cells 22 [.slice none 0 0] 22 [.slice none 0 0];rw [show((V.alloc (.cells (C8 c) 32)).alloc (.cells #[.slice none 0 0] 22)).alloc (.cells #[.slice none 0 0] 22)=W from hW.symm];obtain ⟨B,hB⟩: ∃B,B=V.heap.size:=⟨_,rfl⟩;obtain ⟨P,hP⟩: ∃P,P=B+1:=⟨_,rfl⟩;obtain ⟨Q,hQ⟩: ∃Q,Q=B+2:=⟨_,rfl⟩;rw [←hB]at A0 A1 A2⊢;rw [←hP]at A1⊢;rw [←hQ]at A2;first|rw [←hQ]|rw [show P+1=Q by omega]
 have jo:Hid (B≠P∧B≠Q∧P≠Q∧V.heap.size≤B∧V.heap.size≤P∧V.heap.size≤Q∧B<W.heap.size∧P<W.heap.size∧Q<W.heap.size):=by
  have h0:=A0.lt;have h1:=A1.lt;have h2:=A2.lt
  show _∧_∧_∧_∧_∧_∧_∧_∧_;omega
 have HB:=ae A0;have HP:=ae A1;have HQ:=ae A2;have HX:=ae x0
 have pG:=ae x0;clear hW A0 A1 A2 x0 hB hP hQ;go_cut [] (fun wx=> ∃L H,nD V wx c B P Q L H c.ak.length∧eK wx L H c.ak.length (fD c ks h) (fD c ks h))
 case first=>
  as_aux_lemma=>
   refine aB (fun w'=>w'.cell? ⟨B,2,none⟩=some (.slice c.ba c.ak.length c.bc)) (fun _=>True) (fun i=>false) (by kernel_rfl) (aj (Ext.refl _).drew ((HB.o.cell 2).trans rfl)) trivial (fun aq _=> ?_);refine ay 0 aq trivial ?_;refine ay 1 aq trivial ?_;refine ay 2 aq trivial ?_ (v:= .int .i64 (c.ak.length:Int));refine ay 4 aq trivial ?_;refine ay 5 aq trivial ?_;refine ay 6 aq trivial ?_ (v:= .int .i64 (c.ak.length:Int));obtain ⟨Y0,kR⟩: ∃Y0,Y0=W.drew:=⟨_,rfl⟩;have hx:Ext W Y0:=by rw [kR];exact (Ext.refl W).drew
   rw [←kR];have pO:=ae hx.size;have HB:=ae (HB.o.ext hx);have HP:=ae (HP.o.ext hx);have HQ:=ae (HQ.o.ext hx);have HX:=ae (HX.o.trans hx)
   clear hx kR aq;refine aQ (rs:= [3,7]) (by kernel_rfl) (by simp) ?_;refine aA.cons rfl (fun Kc hK=> ?_) (aA.cons rfl (fun Kc hK=> ?_) aA.nil)
   ·go_simp
    obtain ⟨Y1,kC,xa,-,A1⟩:=aH Y0 3 (List.replicate c.ak.length (i64 0));rw [show Y0.alloc (.cells (Array.replicate c.ak.length (i64 0)) 3)=Y1 from by rw [kC,List.toArray_replicate]];obtain ⟨L,hL⟩: ∃L,L=Y0.heap.size:=⟨_,rfl⟩;rw [←hL]at A1⊢;have hs:=A1.lt
    have CA:Hid (B≠L∧P≠L∧Q≠L∧V.heap.size≤L∧L<Y1.heap.size):=by
     have h1:=jo.o;have h2:=pG.o.size;have h3:=pO.o
     show _∧_∧_∧_∧_;omega
    have ni:=ae A1
    have pO:Hid (W.heap.size≤Y1.heap.size):=by
     have h1:=pO.o;have h2:=xa.size
     show _≤_;omega
    have HB:=ae (HB.o.ext xa);have HP:=ae (HP.o.ext xa);have HQ:=ae (HQ.o.ext xa);have HX:=ae (HX.o.trans xa)
    clear xa kC A1 hL hs;refine hK.o _ _ ((HB.o.cell 2).trans rfl) trivial (fun aq _=> ?_);clear hK Kc aq;try simp only [sS,Act.put]
    have aq:=(HB.o.cell 2).trans (show _=some (Value.slice c.ba c.ak.length c.bc)from rfl);refine aQ (rs:= [7,8]) (by kernel_rfl) (by simp) ?_;refine aA.cons rfl (fun Kc hK=> ?_) (aA.cons rfl (fun Kc hK=> ?_) aA.nil)
    ·go_simp
     obtain ⟨Y2,kC,xa,-,A1⟩:=aH Y1 3 (List.replicate c.ak.length (i64 0));rw [show Y1.alloc (.cells (Array.replicate c.ak.length (i64 0)) 3)=Y2 from by rw [kC,List.toArray_replicate]];obtain ⟨H,hH⟩: ∃H,H=Y1.heap.size:=⟨_,rfl⟩;rw [←hH]at A1⊢;have hs:=A1.lt
     have CB:Hid (B≠H∧P≠H∧Q≠H∧V.heap.size≤H∧H<Y2.heap.size):=by
      have h1:=jo.o;have h2:=pG.o.size;have h3:=pO.o
      show _∧_∧_∧_∧_;omega
     have jV:Hid (L≠H):=by
      have h1:=ni.o.lt;show _≠_;omega
     have ni:=ae (ni.o.ext xa);have tK:=ae A1
     have pO:Hid (W.heap.size≤Y2.heap.size):=by
      have h1:=pO.o;have h2:=xa.size
      show _≤_;omega
     have HB:=ae (HB.o.ext xa);have HP:=ae (HP.o.ext xa);have HQ:=ae (HQ.o.ext xa);have HX:=ae (HX.o.trans xa)
     clear xa kC A1 hH hs;refine hK.o _ _ ((HB.o.cell 2).trans rfl) trivial (fun aq _=> ?_);clear hK Kc aq;try simp only [sS,Act.put]
     have aq:=(HB.o.cell 2).trans (show _=some (Value.slice c.ba c.ak.length c.bc)from rfl);refine dX 8 rfl (fun Kc hK=> ?_);have p0:=HP.o.cl 0 (.slice none 0 0) rfl;have p1:=HP.o.frozen 0;go_simp;clear p0 p1;obtain ⟨Y3,hY⟩: ∃Y3,Y3=Y2.setCell ⟨P,0,none⟩ (.slice (some ⟨L,0,none⟩) c.ak.length c.ak.length):=⟨_,rfl⟩;rw [←hY];have e3:ar P Y2 Y3:=by rw [hY];exact (ar.refl P Y2).set rfl _
     have ET:Hid (aJ Y3 P 22 [.slice (some ⟨L,0,none⟩) c.ak.length c.ak.length]):=by rw [hY];exact HP.o.set 0 _
     have hd:=jo.o
     have pO:Hid (W.heap.size≤Y3.heap.size):=by
      have h1:=pO.o;have h2:=e3.size
      show _≤_;omega
     have HB:=ae (HB.o.but e3 (by omega));have HQ:=ae (HQ.o.but e3 (by omega));have HX:=ae (e3.ext HX.o (by omega))
     have mA:=CA.o;have ni:=ae (ni.o.but e3 (by omega));clear mA;have mA:=CB.o;have tK:=ae (tK.o.but e3 (by omega));clear mA;clear e3 hY hd HP;have HP:=ET;clear ET;refine hK.o _ _ ((HB.o.cell 2).trans rfl) trivial (fun aq _=> ?_);clear hK Kc aq;try simp only [sS,Act.put]
     have aq:=(HB.o.cell 2).trans (show _=some (Value.slice c.ba c.ak.length c.bc)from rfl);refine dX 9 rfl (fun Kc hK=> ?_);have p0:=HQ.o.cl 0 (.slice none 0 0) rfl;have p1:=HQ.o.frozen 0;go_simp;clear p0 p1;obtain ⟨Y4,hY⟩: ∃Y4,Y4=Y3.setCell ⟨Q,0,none⟩ (.slice (some ⟨H,0,none⟩) c.ak.length c.ak.length):=⟨_,rfl⟩;rw [←hY];have e3:ar Q Y3 Y4:=by rw [hY];exact (ar.refl Q Y3).set rfl _
     have MN:Hid (aJ Y4 Q 22 [.slice (some ⟨H,0,none⟩) c.ak.length c.ak.length]):=by rw [hY];exact HQ.o.set 0 _
     have hd:=jo.o
     have pO:Hid (W.heap.size≤Y4.heap.size):=by
      have h1:=pO.o;have h2:=e3.size
      show _≤_;omega
     have HB:=ae (HB.o.but e3 (by omega));have HP:=ae (HP.o.but e3 (by omega));have HX:=ae (e3.ext HX.o (by omega))
     have mA:=CA.o;have ni:=ae (ni.o.but e3 (by omega));clear mA;have mA:=CB.o;have tK:=ae (tK.o.but e3 (by omega));clear mA;clear e3 hY hd HQ;have HQ:=MN;clear MN;refine hK.o _ _ ((HB.o.cell 2).trans rfl) trivial (fun aq _=> ?_);clear hK Kc aq;try simp only [sS,Act.put]
     have aq:=(HB.o.cell 2).trans (show _=some (Value.slice c.ba c.ak.length c.bc)from rfl);refine ax (by kernel_rfl) ?_ _;go_wp2_with fail
     go_meet
     have hd:=CA.o;have mA:=CB.o;have hd3:=jV.o
     exact ⟨L,H,⟨HX.o,HB.o,HP.o,HQ.o,by omega,by omega⟩,⟨(b_.zero (fun _=>0) ni.o).congr fun b _=>by simp [fD],(b_.zero (fun _=>0) tK.o).congr fun b _=>by simp [fD],by omega⟩⟩
    ·have p0:=HP.o.cl 0 (.slice none 0 0) rfl
     have p1:=HP.o.frozen 0;go_simp;clear p0 p1;obtain ⟨Y2,hY⟩: ∃Y2,Y2=Y1.setCell ⟨P,0,none⟩ (.slice (some ⟨L,0,none⟩) c.ak.length c.ak.length):=⟨_,rfl⟩;rw [←hY];have e3:ar P Y1 Y2:=by rw [hY];exact (ar.refl P Y1).set rfl _
     have ET:Hid (aJ Y2 P 22 [.slice (some ⟨L,0,none⟩) c.ak.length c.ak.length]):=by rw [hY];exact HP.o.set 0 _
     have hd:=jo.o
     have pO:Hid (W.heap.size≤Y2.heap.size):=by
      have h1:=pO.o;have h2:=e3.size
      show _≤_;omega
     have HB:=ae (HB.o.but e3 (by omega));have HQ:=ae (HQ.o.but e3 (by omega));have HX:=ae (e3.ext HX.o (by omega))
     have mA:=CA.o;have ni:=ae (ni.o.but e3 (by omega));clear mA;clear e3 hY hd HP;have HP:=ET;clear ET;refine hK.o _ _ ((HB.o.cell 2).trans rfl) trivial (fun aq _=> ?_);clear hK Kc aq;try simp only [sS,Act.put]
     have aq:=(HB.o.cell 2).trans (show _=some (Value.slice c.ba c.ak.length c.bc)from rfl);refine dX 7 rfl (fun Kc hK=> ?_);go_simp;obtain ⟨Y3,kC,xa,-,A1⟩:=aH Y2 3 (List.replicate c.ak.length (i64 0));rw [show Y2.alloc (.cells (Array.replicate c.ak.length (i64 0)) 3)=Y3 from by rw [kC,List.toArray_replicate]];obtain ⟨H,hH⟩: ∃H,H=Y2.heap.size:=⟨_,rfl⟩;rw [←hH]at A1⊢;have hs:=A1.lt
     have CB:Hid (B≠H∧P≠H∧Q≠H∧V.heap.size≤H∧H<Y3.heap.size):=by
      have h1:=jo.o;have h2:=pG.o.size;have h3:=pO.o
      show _∧_∧_∧_∧_;omega
     have jV:Hid (L≠H):=by
      have h1:=ni.o.lt;show _≠_;omega
     have ni:=ae (ni.o.ext xa);have tK:=ae A1
     have pO:Hid (W.heap.size≤Y3.heap.size):=by
      have h1:=pO.o;have h2:=xa.size
      show _≤_;omega
     have HB:=ae (HB.o.ext xa);have HP:=ae (HP.o.ext xa);have HQ:=ae (HQ.o.ext xa);have HX:=ae (HX.o.trans xa)
     clear xa kC A1 hH hs;refine hK.o _ _ ((HB.o.cell 2).trans rfl) trivial (fun aq _=> ?_);clear hK Kc aq;try simp only [sS,Act.put]
     have aq:=(HB.o.cell 2).trans (show _=some (Value.slice c.ba c.ak.length c.bc)from rfl);refine dX 9 rfl (fun Kc hK=> ?_);have p0:=HQ.o.cl 0 (.slice none 0 0) rfl;have p1:=HQ.o.frozen 0;go_simp;clear p0 p1;obtain ⟨Y4,hY⟩: ∃Y4,Y4=Y3.setCell ⟨Q,0,none⟩ (.slice (some ⟨H,0,none⟩) c.ak.length c.ak.length):=⟨_,rfl⟩;rw [←hY];have e3:ar Q Y3 Y4:=by rw [hY];exact (ar.refl Q Y3).set rfl _
     have MN:Hid (aJ Y4 Q 22 [.slice (some ⟨H,0,none⟩) c.ak.length c.ak.length]):=by rw [hY];exact HQ.o.set 0 _
     have hd:=jo.o
     have pO:Hid (W.heap.size≤Y4.heap.size):=by
      have h1:=pO.o;have h2:=e3.size
      show _≤_;omega
     have HB:=ae (HB.o.but e3 (by omega));have HP:=ae (HP.o.but e3 (by omega));have HX:=ae (e3.ext HX.o (by omega))
     have mA:=CA.o;have ni:=ae (ni.o.but e3 (by omega));clear mA;have mA:=CB.o;have tK:=ae (tK.o.but e3 (by omega));clear mA;clear e3 hY hd HQ;have HQ:=MN;clear MN;refine hK.o _ _ ((HB.o.cell 2).trans rfl) trivial (fun aq _=> ?_);clear hK Kc aq;try simp only [sS,Act.put]
     have aq:=(HB.o.cell 2).trans (show _=some (Value.slice c.ba c.ak.length c.bc)from rfl);refine ax (by kernel_rfl) ?_ _;go_wp2_with fail
     go_meet
     have hd:=CA.o;have mA:=CB.o;have hd3:=jV.o
     exact ⟨L,H,⟨HX.o,HB.o,HP.o,HQ.o,by omega,by omega⟩,⟨(b_.zero (fun _=>0) ni.o).congr fun b _=>by simp [fD],(b_.zero (fun _=>0) tK.o).congr fun b _=>by simp [fD],by omega⟩⟩
   ·go_simp
    obtain ⟨Y1,kC,xa,-,A1⟩:=aH Y0 3 (List.replicate c.ak.length (i64 0));rw [show Y0.alloc (.cells (Array.replicate c.ak.length (i64 0)) 3)=Y1 from by rw [kC,List.toArray_replicate]];obtain ⟨H,hH⟩: ∃H,H=Y0.heap.size:=⟨_,rfl⟩;rw [←hH]at A1⊢;have hs:=A1.lt
    have CB:Hid (B≠H∧P≠H∧Q≠H∧V.heap.size≤H∧H<Y1.heap.size):=by
     have h1:=jo.o;have h2:=pG.o.size;have h3:=pO.o
     show _∧_∧_∧_∧_;omega
    have tK:=ae A1
    have pO:Hid (W.heap.size≤Y1.heap.size):=by
     have h1:=pO.o;have h2:=xa.size
     show _≤_;omega
    have HB:=ae (HB.o.ext xa);have HP:=ae (HP.o.ext xa);have HQ:=ae (HQ.o.ext xa);have HX:=ae (HX.o.trans xa)
    clear xa kC A1 hH hs;refine hK.o _ _ ((HB.o.cell 2).trans rfl) trivial (fun aq _=> ?_);clear hK Kc aq;try simp only [sS,Act.put]
    have aq:=(HB.o.cell 2).trans (show _=some (Value.slice c.ba c.ak.length c.bc)from rfl);refine dX 3 rfl (fun Kc hK=> ?_);go_simp;obtain ⟨Y2,kC,xa,-,A1⟩:=aH Y1 3 (List.replicate c.ak.length (i64 0));rw [show Y1.alloc (.cells (Array.replicate c.ak.length (i64 0)) 3)=Y2 from by rw [kC,List.toArray_replicate]];obtain ⟨L,hL⟩: ∃L,L=Y1.heap.size:=⟨_,rfl⟩;rw [←hL]at A1⊢;have hs:=A1.lt
    have CA:Hid (B≠L∧P≠L∧Q≠L∧V.heap.size≤L∧L<Y2.heap.size):=by
     have h1:=jo.o;have h2:=pG.o.size;have h3:=pO.o
     show _∧_∧_∧_∧_;omega
    have jV:Hid (L≠H):=by
     have h1:=tK.o.lt;show _≠_;omega
    have tK:=ae (tK.o.ext xa);have ni:=ae A1
    have pO:Hid (W.heap.size≤Y2.heap.size):=by
     have h1:=pO.o;have h2:=xa.size
     show _≤_;omega
    have HB:=ae (HB.o.ext xa);have HP:=ae (HP.o.ext xa);have HQ:=ae (HQ.o.ext xa);have HX:=ae (HX.o.trans xa)
    clear xa kC A1 hL hs;refine hK.o _ _ ((HB.o.cell 2).trans rfl) trivial (fun aq _=> ?_);clear hK Kc aq;try simp only [sS,Act.put]
    have aq:=(HB.o.cell 2).trans (show _=some (Value.slice c.ba c.ak.length c.bc)from rfl);refine dX 8 rfl (fun Kc hK=> ?_);have p0:=HP.o.cl 0 (.slice none 0 0) rfl;have p1:=HP.o.frozen 0;go_simp;clear p0 p1;obtain ⟨Y3,hY⟩: ∃Y3,Y3=Y2.setCell ⟨P,0,none⟩ (.slice (some ⟨L,0,none⟩) c.ak.length c.ak.length):=⟨_,rfl⟩;rw [←hY];have e3:ar P Y2 Y3:=by rw [hY];exact (ar.refl P Y2).set rfl _
    have ET:Hid (aJ Y3 P 22 [.slice (some ⟨L,0,none⟩) c.ak.length c.ak.length]):=by rw [hY];exact HP.o.set 0 _
    have hd:=jo.o
    have pO:Hid (W.heap.size≤Y3.heap.size):=by
     have h1:=pO.o;have h2:=e3.size
     show _≤_;omega
    have HB:=ae (HB.o.but e3 (by omega));have HQ:=ae (HQ.o.but e3 (by omega));have HX:=ae (e3.ext HX.o (by omega))
    have mA:=CA.o;have ni:=ae (ni.o.but e3 (by omega));clear mA;have mA:=CB.o;have tK:=ae (tK.o.but e3 (by omega));clear mA;clear e3 hY hd HP;have HP:=ET;clear ET;refine hK.o _ _ ((HB.o.cell 2).trans rfl) trivial (fun aq _=> ?_);clear hK Kc aq;try simp only [sS,Act.put]
    have aq:=(HB.o.cell 2).trans (show _=some (Value.slice c.ba c.ak.length c.bc)from rfl);refine dX 9 rfl (fun Kc hK=> ?_);have p0:=HQ.o.cl 0 (.slice none 0 0) rfl;have p1:=HQ.o.frozen 0;go_simp;clear p0 p1;obtain ⟨Y4,hY⟩: ∃Y4,Y4=Y3.setCell ⟨Q,0,none⟩ (.slice (some ⟨H,0,none⟩) c.ak.length c.ak.length):=⟨_,rfl⟩;rw [←hY];have e3:ar Q Y3 Y4:=by rw [hY];exact (ar.refl Q Y3).set rfl _
    have MN:Hid (aJ Y4 Q 22 [.slice (some ⟨H,0,none⟩) c.ak.length c.ak.length]):=by rw [hY];exact HQ.o.set 0 _
    have hd:=jo.o
    have pO:Hid (W.heap.size≤Y4.heap.size):=by
     have h1:=pO.o;have h2:=e3.size
     show _≤_;omega
    have HB:=ae (HB.o.but e3 (by omega));have HP:=ae (HP.o.but e3 (by omega));have HX:=ae (e3.ext HX.o (by omega))
    have mA:=CA.o;have ni:=ae (ni.o.but e3 (by omega));clear mA;have mA:=CB.o;have tK:=ae (tK.o.but e3 (by omega));clear mA;clear e3 hY hd HQ;have HQ:=MN;clear MN;refine hK.o _ _ ((HB.o.cell 2).trans rfl) trivial (fun aq _=> ?_);clear hK Kc aq;try simp only [sS,Act.put]
    have aq:=(HB.o.cell 2).trans (show _=some (Value.slice c.ba c.ak.length c.bc)from rfl);refine ax (by kernel_rfl) ?_ _;go_wp2_with fail
    go_meet
    have hd:=CA.o;have mA:=CB.o;have hd3:=jV.o
    exact ⟨L,H,⟨HX.o,HB.o,HP.o,HQ.o,by omega,by omega⟩,⟨(b_.zero (fun _=>0) ni.o).congr fun b _=>by simp [fD],(b_.zero (fun _=>0) tK.o).congr fun b _=>by simp [fD],by omega⟩⟩
 case rest=>
  obtain ⟨L,H,hS,hT⟩:=hcut;generalize wc=W1 at*;have HS:=ae hS;have sL:=ae (eK.start (ig c) (jy c ks h) (fW c ks h) hT)
  clear hS hT HB HP HQ HX pG MM;have k0:=ai.at HS.o.cs;go_wp2_with fail
  clear k0;go_loopw [30] (fun ii wr=> ∃k:Nat,k≤c.au.length∧nD V wr c B P Q L H c.ak.length∧eK wr L H c.ak.length (fun b=>fD c ks h b+a_ (ig c) (jy c ks h) k b) (fun b=>fD c ks h b+a_ (ig c) (fW c ks h) k b)∧ii= .int .i64 k) (fun ii _=>c.au.length-(intOf ii).toNat)
  case atStart=>exact ⟨0,Nat.zero_le _,HS.o,sL.o,rfl⟩
  case round=>
   clear HS sL;obtain ⟨i,hi,hS,hT,rfl⟩:=hrel;by_cases hlt:i<c.au.length
   ·obtain ⟨b,o,ha,gN⟩:=(et.o.au.ext (HV.o.trans hS.x)).adds i (by simpa using hlt)
    rw [List.getElem_map]at gN;have Ke:=ae (fun U (e:Ext wr U)=>Dw w0 U c a kc ks i h ((HV.o.trans hS.x).trans e) et.o HK.o hlt HT.o HH.o);have jC:=(tJ.o.unit c.au[i] (List.getElem_mem hlt)).bus;have ow:=Eo hlt;have jv:jy c ks h i=if oy c ks h i=true then(if ks.length=0 then 0 else c.au[i].min)else 0:=by unfold jy;rw [uS hlt]
    have nK:fW c ks h i=if oy c ks h i=true then c.au[i].max else 0:=by unfold fW;rw [uQ hlt]
    obtain ⟨x,jc⟩: ∃x,x=c.au[i]:=⟨_,rfl⟩;rw [←jc]at gN jC ow jv nK;obtain ⟨bb,yh⟩: ∃bb:Nat,x.bus=(bb:Int):=⟨x.bus.toNat,by omega⟩;rw [yh]at jC ow;have gV:=ae ow;have HM:=ae (QQ tJ.o ks h bb (i+1) (by omega));have f_:(0:Int)≤(i:Int):=by omega
    have fU:(i:Int)<(c.au.length:Int):=by omega
    have EU:=ae jC;have wC:=ae yh;have lK:=ae jv;have wj:=ae nK;have HS:=ae hS;have mQ:=ae hT
    have HAD:Hid (∀j v,[.string x.name,i64 x.bus,i64 x.min,i64 x.max,.slice x.sa x.aM.length x.sc,i64 x.eu,i64 x.ez,i64 x.cD,i64 x.bW,i64 x.cE,i64 x.eE,i64 x.cF,i64 x.startTime,i64 x.dr,i64 x.cG,i64 x.cJ,i64 x.aV,i64 x.bg,.slice x.aa x.away.length x.ac,i64 x.state,i64 x.hours,i64 x.output][j]?=some v→wr.cell? (Addr.add ⟨b,o+i*22,none⟩ j)=some v):=gN;clear gN jC ow jv nK jc yh hS hT;rw [ha];clear ha;go_upto_region 7 with(first|(refine bG rfl 67 _ rfl ⟨b,o+i*22,none⟩ rfl [.string x.name,i64 x.bus,i64 x.min,i64 x.max,.slice x.sa x.aM.length x.sc,i64 x.eu,i64 x.ez,i64 x.cD,i64 x.bW,i64 x.cE,i64 x.eE,i64 x.cF,i64 x.startTime,i64 x.dr,i64 x.cG,i64 x.cJ,i64 x.aV,i64 x.bg,.slice x.aa x.away.length x.ac,i64 x.state,i64 x.hours,i64 x.output] _ HAD.o underlying67 rfl (by kernel_rfl) ?_)|(refine dw rfl 67 _ _ rfl _ [.string x.name,i64 x.bus,i64 x.min,i64 x.max,.slice x.sa x.aM.length x.sc,i64 x.eu,i64 x.ez,i64 x.cD,i64 x.bW,i64 x.cE,i64 x.eE,i64 x.cF,i64 x.startTime,i64 x.dr,i64 x.cG,i64 x.cJ,i64 x.aV,i64 x.bg,.slice x.aa x.away.length x.ac,i64 x.state,i64 x.hours,i64 x.output] rfl rfl (by kernel_rfl) rfl rfl ?_))
    obtain ⟨W2,hW2,x1,-,A1⟩:=aH wr 67 x.cells;rw [show wr.alloc (.cells #[.string x.name,i64 x.bus,i64 x.min,i64 x.max,.slice x.sa x.aM.length x.sc,i64 x.eu,i64 x.ez,i64 x.cD,i64 x.bW,i64 x.cE,i64 x.eE,i64 x.cF,i64 x.startTime,i64 x.dr,i64 x.cG,i64 x.cJ,i64 x.aV,i64 x.bg,.slice x.aa x.away.length x.ac,i64 x.state,i64 x.hours,i64 x.output] 67)=W2 from hW2.symm];obtain ⟨E,lh⟩: ∃E,E=wr.heap.size:=⟨_,rfl⟩;rw [←lh]at A1⊢;have S_:=ae (Ke.o W2 x1);replace HS:=ae (HS.o.ext x1);replace mQ:=ae (mQ.o.ext x1);have HE:=ae A1
    clear hW2 A1 x1 lh HAD Ke;have k0:=ai.at HS.o.cs;go_wp2_with fail
    refine S_.o.mono ?_;rintro e U ⟨rfl,xx⟩;have hS:=HS.o.ext xx;have hT:=mQ.o.ext xx;have hE:=HE.o.ext xx
    clear S_ HS mQ HE xx k0;obtain ⟨-,u1,u2,u3,-⟩:=aF.at hE;rw [wC.o]at u1;have FD:=EU.o;rcases Bool.eq_false_or_eq_true (oy c ks h i)with hq|hq;rotate_left
    ·have hu:jy c ks h i=0:=by rw [lK.o,hq];rfl
     have hv:fW c ks h i=0:=by rw [wj.o,hq];rfl
     have lW:=ae (hT.Ih hu hv);have HS:=ae hS
     rw [hq];clear hq hS hT hu hv hE FD;go_wp2_with fail
     exact ⟨⟨i+1,by omega,HS.o,lW.o,by go_num⟩,by simp only [intOf];omega⟩
    ·rw [hq]
     by_cases hn:ks.length=0
     ·have tn:((ks.length:Int)==0)=true:=beq_iff_eq.2 (by omega)
      have hu:jy c ks h i=0:=by rw [lK.o,if_pos hq,if_pos hn]
      have hv:fW c ks h i=x.max:=by rw [wj.o,if_pos hq]
      have HW:=ae (tY V U c B P Q L H c.ak.length bb (fun b=>fD c ks h b+a_ (ig c) (jy c ks h) i b) (fun b=>fD c ks h b+a_ (ig c) (fW c ks h) i b) (fun b=>fD c ks h b+a_ (ig c) (jy c ks h) (i+1) b) (fun b=>fD c ks h b+a_ (ig c) (fW c ks h) (i+1) b) (0) (x.max) hS hT (by omega) (by omega) (eN gV.o hu HM.o.1) (eN gV.o hv HM.o.2) (fun j _=>(fq gV.o hu j).symm) (fun j _=>(fq gV.o hv j).symm));clear hq hS hT hu hv hE hn FD;go_wp2_with fail
      refine HW.o.mono ?_;rintro e U2 ⟨rfl,hS,hT⟩;have HS:=ae hS;have lW:=ae hT
      clear hS hT HW u1 u2 u3;go_wp2_with fail
      exact ⟨⟨i+1,by omega,HS.o,lW.o,by go_num⟩,by simp only [intOf];omega⟩
     ·have tn:((ks.length:Int)==0)=false:=beq_eq_false_iff_ne.2 (by omega)
      have hu:jy c ks h i=x.min:=by rw [lK.o,if_pos hq,if_neg hn]
      have hv:fW c ks h i=x.max:=by rw [wj.o,if_pos hq]
      have HW:=ae (tY V U c B P Q L H c.ak.length bb (fun b=>fD c ks h b+a_ (ig c) (jy c ks h) i b) (fun b=>fD c ks h b+a_ (ig c) (fW c ks h) i b) (fun b=>fD c ks h b+a_ (ig c) (jy c ks h) (i+1) b) (fun b=>fD c ks h b+a_ (ig c) (fW c ks h) (i+1) b) (x.min) (x.max) hS hT (by omega) (by omega) (eN gV.o hu HM.o.1) (eN gV.o hv HM.o.2) (fun j _=>(fq gV.o hu j).symm) (fun j _=>(fq gV.o hv j).symm));clear hq hS hT hu hv hE hn FD;go_wp2_with fail
      refine HW.o.mono ?_;rintro e U2 ⟨rfl,hS,hT⟩;have HS:=ae hS;have lW:=ae hT
      clear hS hT HW u1 u2 u3;go_wp2_with fail
      exact ⟨⟨i+1,by omega,HS.o,lW.o,by go_num⟩,by simp only [intOf];omega⟩
   ·obtain rfl:i=c.au.length:=by omega
    have HS:=ae hS;have sL:=ae (eK.start (jz c) (oZ c) (kf c) (f0:=rC c ks h) (g0:=lq c ks h) hT)
    clear hS hT;have k0:=ai.at HS.o.cs;obtain ⟨wo,Dl⟩: ∃wo:World,wo=wr:=⟨_,rfl⟩;subst Dl;go_wp2_with fail
    clear k0;go_loopw [64] (fun ii wr=> ∃k:Nat,k≤c.stores.length∧nD V wr c B P Q L H c.ak.length∧eK wr L H c.ak.length (fun b=>rC c ks h b+a_ (jz c) (oZ c) k b) (fun b=>lq c ks h b+a_ (jz c) (kf c) k b)∧ii= .int .i64 k) (fun ii _=>c.stores.length-(intOf ii).toNat)
    case atStart=>exact ⟨0,Nat.zero_le _,HS.o,sL.o,rfl⟩
    case round=>
     clear HS sL;obtain ⟨i,hi,hS,hT,rfl⟩:=hrel;by_cases hlt:i<c.stores.length
     ·obtain ⟨b,o,ha,c0,c1,c2,c3,c4,c5,c6,c7,c8⟩:=(et.o.stores.ext (HV.o.trans hS.x)).stores i hlt
      have jC:=(tJ.o.store c.stores[i] (List.getElem_mem hlt)).bus;have hch:=(tJ.o.store c.stores[i] (List.getElem_mem hlt)).dg;have ow:=Ep hlt;have jv:=yR hlt;have nK:=uT hlt
      obtain ⟨x,jc⟩: ∃x,x=c.stores[i]:=⟨_,rfl⟩;rw [←jc]at c0 c1 c2 c3 c4 c5 c6 c7 c8 jC ow jv nK hch;obtain ⟨bb,yh⟩: ∃bb:Nat,x.bus=(bb:Int):=⟨x.bus.toNat,by omega⟩;rw [yh]at jC ow;have gV:=ae ow;have HM:=ae (QR tJ.o ks h bb (i+1) (by omega));have f_:(0:Int)≤(i:Int):=by omega
      have fU:(i:Int)<(c.stores.length:Int):=by omega
      have hw:IntKind.i64.wrap (-x.dg)= -x.dg:=by rw [IntKind.wrap_i64];omega
      have wC:=ae yh;have EU:=ae jC;have lK:=ae jv;have wj:=ae nK;have HS:=ae hS;have mQ:=ae hT
      clear ow jv nK jc yh hS hT hch jC;rw [ha];clear ha;go_upto_region 14 with fail
      obtain ⟨U,hW2,x1,-,A1⟩:=aH wr 82 x.cells;rw [show wr.alloc (.cells #[.string x.name,i64 x.bus,i64 x.capacity,i64 x.initial,i64 x.final,i64 x.dg,i64 x.discharge,i64 x.en,i64 x.ed] 82)=U from hW2.symm];clear c0 c1 c2 c3 c4 c5 c6 c7 c8;obtain ⟨-,u1,-,-,-,u5,u6,-⟩:=bj.at A1;rw [wC.o]at u1;have hS:=HS.o.ext x1;have hT:=mQ.o.ext x1
      have hu:=lK.o;have hv:=wj.o;have FD:=EU.o
      have HW:=ae (tY V U c B P Q L H c.ak.length bb (fun b=>rC c ks h b+a_ (jz c) (oZ c) i b) (fun b=>lq c ks h b+a_ (jz c) (kf c) i b) (fun b=>rC c ks h b+a_ (jz c) (oZ c) (i+1) b) (fun b=>lq c ks h b+a_ (jz c) (kf c) (i+1) b) (-x.dg) (x.discharge) hS hT (by omega) (by omega) (eN gV.o hu HM.o.1) (eN gV.o hv HM.o.2) (fun j _=>(fq gV.o hu j).symm) (fun j _=>(fq gV.o hv j).symm));clear hS hT hu hv FD HS mQ A1 x1 hW2;go_wp2_with fail
      refine HW.o.mono ?_;rintro e U2 ⟨rfl,hS,hT⟩;have HS:=ae hS;have lW:=ae hT
      clear hS hT HW u1 u5 u6 hw;go_wp2_with fail
      exact ⟨⟨i+1,by omega,HS.o,lW.o,by go_num⟩,by simp only [intOf];omega⟩
     ·obtain rfl:i=c.stores.length:=by omega
      have HS:=ae hS;have sL:=ae (eK.start (jW c) (o0 c h) (kg c h) (f0:=tF c ks h) (g0:=mO c ks h) hT)
      clear hS hT;have k0:=ai.at HS.o.cs;obtain ⟨wo2,Dl⟩: ∃wo2:World,wo2=wr:=⟨_,rfl⟩;subst Dl;go_wp2_with fail
      clear k0;go_loopw [81] (fun ii wr=> ∃k:Nat,k≤c.aL.length∧nD V wr c B P Q L H c.ak.length∧eK wr L H c.ak.length (fun b=>tF c ks h b+a_ (jW c) (o0 c h) k b) (fun b=>mO c ks h b+a_ (jW c) (kg c h) k b)∧ii= .int .i64 k) (fun ii _=>c.aL.length-(intOf ii).toNat)
      case atStart=>exact ⟨0,Nat.zero_le _,HS.o,sL.o,rfl⟩
      case round=>
       clear HS sL;obtain ⟨i,hi,hS,hT,rfl⟩:=hrel;by_cases hlt:i<c.aL.length
       ·obtain ⟨b,o,ha,c0,c1,c2,c3,c4⟩:=(et.o.aL.ext (HV.o.trans hS.x)).aL i hlt
        have kM:=tJ.o.tie c.aL[i] (List.getElem_mem hlt);have jC:=kM.bus;have himp:=kM.imp;have Gi:=kM.exp
        have Ji:=(et.o.tie c.aL[i] (List.getElem_mem hlt)).2.1;have Jj:=(et.o.tie c.aL[i] (List.getElem_mem hlt)).2.2.1;have ow:=Er hlt;have jv:=yS h hlt;have nK:=uU h hlt
        obtain ⟨x,jc⟩: ∃x,x=c.aL[i]:=⟨_,rfl⟩;rw [←jc]at c0 c1 c2 c3 c4 jC ow jv nK himp Gi Ji Jj;obtain ⟨bb,yh⟩: ∃bb:Nat,x.bus=(bb:Int):=⟨x.bus.toNat,by omega⟩;rw [yh]at jC ow;have OU:=HH.o;have iG:h<x.imp.length:=by omega
        have G4:h<x.exp.length:=by omega
        have Jk:=pX himp.2 h iG;have her:=pX Gi.2 h G4
        obtain ⟨ib,io,Jl,d0⟩:=Ji.cell h iG;obtain ⟨eb,eo,S',d1⟩:=Jj.cell h G4;rw [←df iG]at d0;rw [←df G4]at d1;obtain ⟨di,lF⟩: ∃d,d=aR x.imp h:=⟨_,rfl⟩;obtain ⟨de,Ta⟩: ∃d,d=aR x.exp h:=⟨_,rfl⟩;rw [←lF]at d0 nK Jk;rw [←Ta]at d1 jv her
        have FT:Hid (ib≠L∧ib≠H∧eb≠L∧eb≠H):=by
             have h1:=bm d0;have h2:=bm d1;have h3:=HV.o.size;have h4:=hS.new
             replace h1:ib<w0.heap.size:=h1;replace h2:eb<w0.heap.size:=h2;show _∧_∧_∧_;omega
        have d0:=aj (HV.o.trans hS.x) d0;have d1:=aj (HV.o.trans hS.x) d1;have Yi:=Ji.le;have Yj:=Ji.cap;have hec:=Jj.le;have heC:=Jj.cap
        have gV:=ae ow;have HM:=ae (QS tJ.o ks h bb (i+1) (by omega));have f_:(0:Int)≤(i:Int):=by omega
        have fU:(i:Int)<(c.aL.length:Int):=by omega
        have Ob:(0:Int)≤(h:Int):=by omega
        have Sn:(h:Int)<(x.imp.length:Int):=by omega
        have bh2:(h:Int)<(x.exp.length:Int):=by omega
        have hw:IntKind.i64.wrap (-de)= -de:=by rw [IntKind.wrap_i64];omega
        have wC:=ae yh;have Yk:=ae Jl;have HEA:=ae S'
        have EU:=ae jC;have lK:=ae jv;have wj:=ae nK;have HS:=ae hS;have mQ:=ae hT
        clear ow jv nK jc yh hS hT jC himp Gi Ji Jj Jl S' Jk her lF Ta kM OU iG G4;rw [ha];clear ha;go_upto_region 19 with fail
        obtain ⟨G,hG⟩: ∃G,G=wr.heap.size:=⟨_,rfl⟩;obtain ⟨U,hW2,x1,-,A1⟩:=aH wr 84 x.cells;rw [show wr.alloc (.cells #[.string x.name,i64 x.bus,.slice x.ia x.imp.length x.ic,.slice x.ea x.exp.length x.ec,.slice x.pa x.aX.length x.pc] 84)=U from hW2.symm];rw [←hG]at A1⊢;clear c0 c1 c2 c3 c4;obtain ⟨-,u1,u2,u3,-⟩:=dS.at A1;rw [wC.o]at u1;rw [Yk.o]at u2;rw [HEA.o]at u3;have d0:=aj x1 d0;have d1:=aj x1 d1
        have HG:Hid (G≠L∧G≠H):=by
             have h1:=mQ.o.lo.lt;have h2:=mQ.o.hi.lt
             show _∧_;omega
        replace HS:=ae (HS.o.ext x1);replace mQ:=ae (mQ.o.ext x1)
        clear hW2 x1 A1 hG;refine aB (fun w'=>w'.cell? ⟨G,1,none⟩=some (i64 (bb:Int))∧w'.cell? ⟨G,2,none⟩=some (.slice (some ⟨ib,io,none⟩) x.imp.length x.ic)∧w'.cell? ⟨G,3,none⟩=some (.slice (some ⟨eb,eo,none⟩) x.exp.length x.ec)∧w'.cell? ⟨ib,io+h,none⟩=some (i64 di)∧w'.cell? ⟨eb,eo+h,none⟩=some (i64 de)) (fun _=>True) (fun i=>false) (by kernel_rfl) (⟨aj (Ext.refl _).drew u1,aj (Ext.refl _).drew u2,aj (Ext.refl _).drew u3,aj (Ext.refl _).drew d0,aj (Ext.refl _).drew d1⟩) trivial (fun aq _=> ?_);obtain ⟨Y0,kR⟩: ∃Y0,Y0=U.drew:=⟨_,rfl⟩;have hx:Ext U Y0:=by rw [kR];exact (Ext.refl U).drew
        rw [←kR]at aq⊢;replace HS:=ae (HS.o.ext hx);replace mQ:=ae (mQ.o.ext hx)
        clear hx kR u1 u2 u3 d0 d1;refine ay 0 aq trivial ?_ (v:= .func (.func 120) #[] #[.pointer (some ⟨P,0,none⟩),.pointer (some ⟨Q,0,none⟩)]);refine ay 1 aq trivial ?_;refine ay 2 aq trivial ?_ (v:=i64 (bb:Int));refine ay 3 aq trivial ?_;refine ay 4 aq trivial ?_;refine ay 5 aq trivial ?_ (v:= .int .i64 (h:Int));refine ay 6 aq trivial ?_;refine ay 7 aq trivial ?_ (v:=i64 de);refine ay 8 aq trivial ?_ (v:=i64 (-de));refine ay 9 aq trivial ?_;refine ay 10 aq trivial ?_;refine ay 11 aq trivial ?_ (v:= .int .i64 (h:Int));refine ay 12 aq trivial ?_;refine ay 13 aq trivial ?_ (v:=i64 di);refine dX 14 rfl (fun Kc hK=> ?_);go_simp;have hS:=HS.o;have hT:=mQ.o;have hu:=lK.o;have hv:=wj.o;have FD:=EU.o
        refine (Bz V Y0 c B P Q L H c.ak.length bb (fun b=>tF c ks h b+a_ (jW c) (o0 c h) i b) (fun b=>mO c ks h b+a_ (jW c) (kg c h) i b) (fun b=>tF c ks h b+a_ (jW c) (o0 c h) (i+1) b) (fun b=>mO c ks h b+a_ (jW c) (kg c h) (i+1) b) (-de) (di) hS hT (by omega) (by omega) (eN gV.o hu HM.o.1) (eN gV.o hv HM.o.2) (fun j _=>(fq gV.o hu j).symm) (fun j _=>(fq gV.o hv j).symm)).mono ?_;rintro e U2 ⟨rfl,hS,hT,hcell⟩;have zQ:=ae hS;have lW:=ae hT
        have f1:=HG.o;have f2:=FT.o
        obtain ⟨e0,e1,e2,e3,e4⟩:=aq;replace aq:U2.cell? ⟨G,1,none⟩=some (i64 (bb:Int))∧U2.cell? ⟨G,2,none⟩=some (.slice (some ⟨ib,io,none⟩) x.imp.length x.ic)∧U2.cell? ⟨G,3,none⟩=some (.slice (some ⟨eb,eo,none⟩) x.exp.length x.ec)∧U2.cell? ⟨ib,io+h,none⟩=some (i64 di)∧U2.cell? ⟨eb,eo+h,none⟩=some (i64 de):=⟨hcell _ _ f1.1 f1.2 e0,hcell _ _ f1.1 f1.2 e1,hcell _ _ f1.1 f1.2 e2,hcell _ _ f2.1 f2.2.1 e3,hcell _ _ f2.2.2.1 f2.2.2.2 e4⟩;clear hS hT hu hv FD HS mQ hcell f1 f2 e0 e1 e2 e3 e4;refine hK.o _ _ (aq) trivial (fun aq _=> ?_);clear hK Kc;try simp only [sS,Act.put]
        refine ax (by kernel_rfl) ?_ _;go_wp2_with fail
        exact ⟨⟨i+1,by omega,zQ.o,lW.o,by go_num⟩,by simp only [intOf];omega⟩
       ·obtain rfl:i=c.aL.length:=by omega
        have HS:=ae hS;have sL:=ae (eK.start (fun k=>(k:Int)) (jJ c h) (dD c h) (f0:=kh c ks h) (g0:=dK c ks h) hT)
        clear hS hT;have k0:=ai.at HS.o.cs;obtain ⟨wo3,Dl⟩: ∃wo3:World,wo3=wr:=⟨_,rfl⟩;subst Dl;go_wp2_with fail
        clear k0;go_loopw [104] (fun ii wr=> ∃k:Nat,k≤c.ak.length∧nD V wr c B P Q L H c.ak.length∧eK wr L H c.ak.length (fun b=>kh c ks h b+a_ (fun k=>(k:Int)) (jJ c h) k b) (fun b=>dK c ks h b+a_ (fun k=>(k:Int)) (dD c h) k b)∧ii= .int .i64 k) (fun ii _=>c.ak.length-(intOf ii).toNat)
        case atStart=>exact ⟨0,Nat.zero_le _,HS.o,sL.o,rfl⟩
        case round=>
             clear HS sL;obtain ⟨i,hi,hS,hT,rfl⟩:=hrel;by_cases hlt:i<c.ak.length
             ·obtain ⟨b,o,ha,c0,c1,c2⟩:=(et.o.ak.ext (HV.o.trans hS.x)).ak i hlt
              have kM:=tJ.o.bus c.ak[i] (List.getElem_mem hlt);have lF:=((et.o.bus c.ak[i] (List.getElem_mem hlt)).2.1).ext (HV.o.trans hS.x);have jv:jJ c h i= -aR c.ak[i].bP h:=by unfold jJ;rw [uV h hlt]
              have nK:dD c h i=if 0<c.ak[i].gC then 0 else-aR c.ak[i].bP h:=by unfold dD;rw [uV h hlt,xN hlt]
              obtain ⟨x,jc⟩: ∃x,x=c.ak[i]:=⟨_,rfl⟩;rw [←jc]at c0 c1 c2 kM lF jv nK;have OU:=HH.o;have iG:h<x.bP.length:=by omega
              have Jk:=pX kM.2.1 h iG;obtain ⟨ib,io,Jl,d0⟩:=lF.cell h iG;rw [←df iG]at d0;obtain ⟨d,hd⟩: ∃d,d=aR x.bP h:=⟨_,rfl⟩;rw [←hd]at d0 jv nK Jk;have Yi:=lF.le;have Yj:=lF.cap
              have HM:=ae (KZ tJ.o ks h i i (by omega));have MK:=ae (KZ tJ.o ks h i (i+1) (by omega))
              have f_:(0:Int)≤(i:Int):=by omega
              have fU:(i:Int)<(c.ak.length:Int):=by omega
              have Ob:(0:Int)≤(h:Int):=by omega
              have Sn:(h:Int)<(x.bP.length:Int):=by omega
              have hw:IntKind.i64.wrap (-d)= -d:=by rw [IntKind.wrap_i64];omega
              have Yk:=ae Jl;have U':=ae Jk
              have lK:=ae jv;have wj:=ae nK;have HS:=ae hS;have mQ:=ae hT
              clear jv nK jc hS hT kM lF Jl Jk hd OU iG;rw [ha];clear ha;go_upto_region 24 with fail
              obtain ⟨U,hW2,x1,-,A1⟩:=aH wr 74 x.cells;rw [show wr.alloc (.cells #[.string x.name,.slice x.da x.bP.length x.dc,i64 x.gC] 74)=U from hW2.symm];clear c0 c1 c2;obtain ⟨-,u1,u2⟩:=cA.at A1;rw [Yk.o]at u1;have d0:=aj x1 d0;have hS:=HS.o.ext x1;have hT:=mQ.o.ext x1
              have hm:=HM.o;have Cz:=MK.o;have Jk:=U'.o;have hu:=lK.o
              have Tb:lr (kh c ks h i+a_ (fun k=>(k:Int)) (jJ c h) i i+ -d):=eN (f0:=kh c ks h) (bus:=fun k=>(k:Int)) rfl hu Cz.1;have Tc:lr (dK c ks h i+a_ (fun k=>(k:Int)) (dD c h) i i+ -d):=by have h1:=hm.2.2;unfold lr at h1⊢;omega
              have hbk:U.cell? ⟨wr.heap.size,2,none⟩=some (i64 x.gC):=u2;have HE:=ae A1;have HF:=ae (show wr.heap.size≠L∧wr.heap.size≠H from by(have h1:=mQ.o.lo.lt;have h2:=mQ.o.hi.lt;omega));have HW:=ae (Bz V U c B P Q L H c.ak.length i (fun b=>kh c ks h b+a_ (fun k=>(k:Int)) (jJ c h) i b) (fun b=>dK c ks h b+a_ (fun k=>(k:Int)) (dD c h) i b) (fun b=>kh c ks h b+a_ (fun k=>(k:Int)) (jJ c h) (i+1) b) (fun b=>if b=i then dK c ks h i+a_ (fun k=>(k:Int)) (dD c h) i i+ -d else dK c ks h b+a_ (fun k=>(k:Int)) (dD c h) i b) (-d) (-d) hS hT (by omega) hlt Tb Tc (fun j _=>(fq (f0:=kh c ks h) (bus:=fun k=>(k:Int)) rfl hu j).symm) (fun j _=>rfl));clear hS hT hm Cz hu Tb Tc hbk A1 x1 hW2 HS mQ;go_wp2_with fail
              refine HW.o.mono ?_;rintro e U2 ⟨rfl,hS,hT,hcell⟩;obtain ⟨-,-,u2⟩:=cA.at HE.o;replace u2:=hcell ⟨wr.heap.size,2,none⟩ _ HF.o.1 HF.o.2 u2;have Cz:=MK.o;have hv:=wj.o
              by_cases hz:0<x.gC
              ·have tz:decide (0<x.gC)=true:=decide_eq_true hz
               rw [if_pos hz]at hv;have Tb:lr (kh c ks h i+a_ (fun k=>(k:Int)) (jJ c h) (i+1) i+0):=by have h1:=Cz.1;unfold lr at h1⊢;omega
               have Tc:lr ((if i=i then dK c ks h i+a_ (fun k=>(k:Int)) (dD c h) i i+ -d else dK c ks h i+a_ (fun k=>(k:Int)) (dD c h) i i)+d):=by
                have h1:=HM.o.2.1;rw [if_pos rfl];unfold lr at h1⊢;omega
               have HW2:=ae (tY V U2 c B P Q L H c.ak.length i (fun b=>kh c ks h b+a_ (fun k=>(k:Int)) (jJ c h) (i+1) b) (fun b=>if b=i then dK c ks h i+a_ (fun k=>(k:Int)) (dD c h) i i+ -d else dK c ks h b+a_ (fun k=>(k:Int)) (dD c h) i b) (fun b=>kh c ks h b+a_ (fun k=>(k:Int)) (jJ c h) (i+1) b) (fun b=>dK c ks h b+a_ (fun k=>(k:Int)) (dD c h) (i+1) b) 0 d hS hT (by omega) hlt Tb Tc
                (fun j _=>by by_cases e:j=i<;>simp [e]) (fun j _=>by
                  show _=dK c ks h j+a_ (fun k=>(k:Int)) (dD c h) (i+1) j;rw [fq (f0:=dK c ks h) (bus:=fun k=>(k:Int)) rfl hv j];by_cases e:j=i
                  ·subst e;rw [if_pos rfl,if_pos rfl,if_pos rfl];omega
                  ·rw [if_neg e,if_neg e,if_neg e]))
               clear hS hT Cz hv Tb Tc hcell HW hz;go_wp2_with fail
               refine HW2.o.mono ?_;rintro e U3 ⟨rfl,hS,hT⟩;have HS:=ae hS;have lW:=ae hT
               clear hS hT HW2 u1 u2 d0 hw;go_wp2_with fail
               exact ⟨⟨i+1,by omega,HS.o,lW.o,by go_num⟩,by simp only [intOf];omega⟩
              ·have tz:decide (0<x.gC)=false:=decide_eq_false hz
               rw [if_neg hz]at hv;have HS:=ae hS;have lW:=ae (hT.congr (f':=fun b=>kh c ks h b+a_ (fun k=>(k:Int)) (jJ c h) (i+1) b) (g':=fun b=>dK c ks h b+a_ (fun k=>(k:Int)) (dD c h) (i+1) b) (fun j _=>rfl) (fun j _=>(fq (f0:=dK c ks h) (bus:=fun k=>(k:Int)) rfl hv j).symm))
               clear hS hT Cz hv hcell HW hz;go_wp2_with fail
               exact ⟨⟨i+1,by omega,HS.o,lW.o,by go_num⟩,by simp only [intOf];omega⟩
             ·obtain rfl:i=c.ak.length:=by omega
              have HS:=ae hS;have mQ:Hid (eK wr L H c.ak.length (fun b=>Dd c ks h b) (fun b=>uX c ks h b)):=hT
              clear hS hT;go_upto_region 29 with fail
              refine aB (fun w'=>w'.cell? ⟨P,0,none⟩=some (.slice (some ⟨L,0,none⟩) c.ak.length c.ak.length)∧w'.cell? ⟨Q,0,none⟩=some (.slice (some ⟨H,0,none⟩) c.ak.length c.ak.length)) (fun _=>True) (fun i=>false) (by kernel_rfl) (⟨((HS.o.ext (Ext.refl _).drew).p.cell 0).trans rfl,((HS.o.ext (Ext.refl _).drew).q.cell 0).trans rfl⟩) trivial (fun aq _=> ?_);obtain ⟨Y0,kR⟩: ∃Y0,Y0=wr.drew:=⟨_,rfl⟩;have hx:Ext wr Y0:=by rw [kR];exact (Ext.refl wr).drew
              rw [←kR]at aq⊢;replace HS:=ae (HS.o.ext hx);replace mQ:=ae (mQ.o.ext hx)
              clear hx kR;refine ay 0 aq trivial ?_;refine ay 1 aq trivial ?_;refine dX 2 rfl (fun Kc hK=> ?_);obtain ⟨p0,q0⟩:=aq;have p1:=HS.o.p.frozen 0;go_simp;clear p1;obtain ⟨Y1,hY⟩: ∃Y1,Y1=Y0.setCell ⟨P,0,none⟩ (.slice (some ⟨L,0,none⟩) c.ak.length c.ak.length):=⟨_,rfl⟩;rw [←hY];have e3:ar P Y0 Y1:=by rw [hY];exact (ar.refl P Y0).set rfl _
              have hd:=jo.o;have mA:=HS.o.far
              have ET:Hid (aJ Y1 P 22 [.slice (some ⟨L,0,none⟩) c.ak.length c.ak.length]):=by rw [hY];exact HS.o.p.set 0 _
              have zQ:Hid (nD V Y1 c B P Q L H c.ak.length):=⟨e3.ext HS.o.x (by omega),HS.o.cs.but e3 (by omega),ET.o,HS.o.q.but e3 (by omega),HS.o.far,HS.o.new⟩;replace mQ:Hid (eK Y1 L H c.ak.length (fun b=>Dd c ks h b) (fun b=>uX c ks h b)):=⟨mQ.o.lo.but e3 (by omega),mQ.o.hi.but e3 (by omega),mQ.o.ne⟩;clear e3 hY hd mA ET HS p0 q0;have HS:=zQ;clear zQ;refine hK.o _ _ ⟨(HS.o.p.cell 0).trans rfl,(HS.o.q.cell 0).trans rfl⟩ trivial (fun aq _=> ?_);clear hK Kc;try simp only [sS,Act.put]
              refine dX 3 rfl (fun Kc hK=> ?_);obtain ⟨p0,q0⟩:=aq;have p1:=HS.o.q.frozen 0;go_simp;clear p1;obtain ⟨Y2,hY⟩: ∃Y2,Y2=Y1.setCell ⟨Q,0,none⟩ (.slice (some ⟨H,0,none⟩) c.ak.length c.ak.length):=⟨_,rfl⟩;rw [←hY];have e3:ar Q Y1 Y2:=by rw [hY];exact (ar.refl Q Y1).set rfl _
              have hd:=jo.o;have mA:=HS.o.far
              have ET:Hid (aJ Y2 Q 22 [.slice (some ⟨H,0,none⟩) c.ak.length c.ak.length]):=by rw [hY];exact HS.o.q.set 0 _
              have zQ:Hid (nD V Y2 c B P Q L H c.ak.length):=⟨e3.ext HS.o.x (by omega),HS.o.cs.but e3 (by omega),HS.o.p.but e3 (by omega),ET.o,HS.o.far,HS.o.new⟩;replace mQ:Hid (eK Y2 L H c.ak.length (fun b=>Dd c ks h b) (fun b=>uX c ks h b)):=⟨mQ.o.lo.but e3 (by omega),mQ.o.hi.but e3 (by omega),mQ.o.ne⟩;clear e3 hY hd mA ET HS p0 q0;have HS:=zQ;clear zQ;refine hK.o _ _ ⟨(HS.o.p.cell 0).trans rfl,(HS.o.q.cell 0).trans rfl⟩ trivial (fun aq _=> ?_);clear hK Kc;try simp only [sS,Act.put]
              refine ax (by kernel_rfl) ?_ _;obtain ⟨p0,q0⟩:=aq;go_wp2_with fail
              try simp only [Exit.inBlock,Exit.then]
              refine bodyPost_ret (v:= .tuple #[.slice (some ⟨L,0,none⟩) c.ak.length c.ak.length,.slice (some ⟨H,0,none⟩) c.ak.length c.ak.length]) (by simp [results,results69,go_sem,p0,q0]) rfl ?_;exact ⟨L,H,rfl,mQ.o,HS.o.x⟩
end Go.Proofs.YtkpngkdgphojlaaGreat
