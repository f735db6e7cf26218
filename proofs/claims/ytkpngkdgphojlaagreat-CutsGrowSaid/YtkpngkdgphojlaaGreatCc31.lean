/- Texts of the proof. -/
import Derived.Test.YtkpngkdgphojlaaGreatCc29
import Derived.Test.YtkpngkdgphojlaaGreatCc30
set_option linter.all false
namespace Go.Proofs.YtkpngkdgphojlaaGreat
open Go.RowKit
theorem xI {w:World} {c:aq} {x:cq} (hc:aT w c) (h:cQ c x=true):br x.hour:=by
 unfold cQ at h;rw [Bool.and_eq_true]at h;obtain ⟨n,e,hlt⟩:=lD h.1;have:=hc.hours;unfold br at this⊢;omega
set_option maxHeartbeats 4000000 in
set_option maxRecDepth 100000 in
theorem rz (V:World):Calls Tryz.prog 14 #[] V fun e w'=>e= .returned (.bool true)∧Ext V w':=by
 have z0:br 0:=by unfold br;omega
 have z1:br 1:=by unfold br;omega
 have RY:=ae (fun U=>od U 50 (by unfold br;omega));have RZ:=ae (fun U=>od U 51 (by unfold br;omega));go_enter Tryz.func14,Tryz.ntmps14
 go_wp2_with fail
 refine (RY.out V).mono ?_;rintro e W1 ⟨c1,rfl,hx,hc,x1⟩;have HX:=ae x1;have hg:=jf (W1.alloc (.cells #[i64 0,i64 1] 3)) c1 0 (some ⟨W1.heap.size,0,none⟩) 2 [0,1] (hc.ext ((Ext.refl _).alloc _)) hx.lens (aA.two W1 0 1 z0 z1) z0;rw [show kP c1 0 [0,1]=(1,0)from by rw [hx.kP (by omega)];rfl]at hg;dsimp only at hg
 have HG:=ae hg;have HY:=ae ((Ext.refl W1).alloc (.cells #[i64 0,i64 1] 3))
 clear hx hc x1 hg;go_wp2_with fail
 refine HG.out.mono ?_;rintro e W2 ⟨rfl,x2⟩;replace HX:=ae ((HX.out.trans HY.out).trans x2);clear x2 HG HY;go_wp2_with fail
 refine (RZ.out W2).mono ?_;rintro e W3 ⟨c3,rfl,hx,hc,x1⟩;replace HX:=ae (HX.out.trans x1);have hg:=jf (W3.alloc (.cells #[i64 0,i64 1] 3)) c3 0 (some ⟨W3.heap.size,0,none⟩) 2 [0,1] (hc.ext ((Ext.refl _).alloc _)) hx.lens (aA.two W3 0 1 z0 z1) z0;rw [show kP c3 0 [0,1]=(2,0)from by rw [hx.kP (by omega)];rfl]at hg;dsimp only at hg
 have HG:=ae hg;have HY:=ae ((Ext.refl W3).alloc (.cells #[i64 0,i64 1] 3))
 clear hx hc x1 hg;go_wp2_with fail
 refine HG.out.mono ?_;rintro e W4 ⟨rfl,x2⟩;replace HX:=ae ((HX.out.trans HY.out).trans x2);clear x2 HG HY;go_upto_region 4 with(refine bD rfl 24 _ _ rfl mf.cells [i64 0,i64 0,.slice (some ⟨W4.heap.size,0,none⟩) 2 2,i64 2,i64 0,i64 0] rfl rfl (by kernel_rfl) rfl rfl ?_)
 obtain ⟨W5,hW,x5,-,A5⟩:=aB W4 3 [i64 0,i64 1];have OC:aA W5 (some ⟨W4.heap.size,0,none⟩) 2 [0,1]:=by rw [hW];exact aA.two W4 0 1 z0 z1
 rw [show W4.alloc (.cells #[i64 0,i64 1] 3)=W5 from hW.symm];obtain ⟨L,hL⟩: ∃L,L=W4.heap.size:=⟨_,rfl⟩;rw [←hL]at OC⊢;have E8:W5.heap.size=L+1:=by rw [hW,hL];simp
 replace HX:=ae (HX.out.trans x5);clear hW x5 A5 hL;obtain ⟨W6,hW,x6,-,A6⟩:=aB W5 24 [i64 0,i64 0,.slice (some ⟨L,0,none⟩) 2 2,i64 2,i64 0,i64 0];rw [show W5.alloc (.cells #[i64 0,i64 0,.slice (some ⟨L,0,none⟩) 2 2,i64 2,i64 0,i64 0] 24)=W6 from hW.symm];obtain ⟨E,hE⟩: ∃E,E=L+1:=⟨_,rfl⟩;rw [E8,←hE]at A6;rw [←hE];replace HX:=ae (HX.out.trans x6);have HI:=ae (OC.ext x6);have HA:=ae A6
 clear hW x6 A6 hE OC E8;refine ay (fun w'=>aG w' E 24 [i64 0,i64 0,.slice (some ⟨L,0,none⟩) 2 2,i64 2,i64 0,i64 0]) (fun _=>True) (fun _=>false) (by kernel_rfl) HA.out trivial (fun ar _=> ?_);obtain ⟨Y0,qJ⟩: ∃Y0,Y0=W6.drew:=⟨_,rfl⟩;have hd:Ext W6 Y0:=by rw [qJ];exact (Ext.refl W6).drew
 rw [←qJ]at ar⊢;replace HA:=ae ar;replace HI:=ae (HI.out.ext hd);replace HX:=ae (HX.out.trans hd)
 clear hd qJ;refine av 0 (i64 1) rfl ar trivial ?_;try simp only [sS,Act.put]
 refine av 1 (.bool true) rfl ar trivial ?_;try simp only [sS,Act.put]
 refine av 2 (.bool true) rfl ar trivial ?_;try simp only [sS,Act.put]
 refine av 3 (i64 0) rfl ar trivial ?_;try simp only [sS,Act.put]
 refine av 4 (.bool true) rfl ar trivial ?_;try simp only [sS,Act.put]
 refine av 5 (.bool true) rfl ar trivial ?_;try simp only [sS,Act.put]
 refine av 6 (.bool true) rfl ar trivial ?_;try simp only [sS,Act.put]
 refine av 7 (i64 2) rfl ar trivial ?_;try simp only [sS,Act.put]
 refine av 8 (.bool true) rfl ar trivial ?_;try simp only [sS,Act.put]
 refine av 9 (.bool true) rfl ar trivial ?_;try simp only [sS,Act.put]
 refine av 10 (.bool true) rfl ar trivial ?_;try simp only [sS,Act.put]
 refine av 11 (i64 0) rfl ar trivial ?_;try simp only [sS,Act.put]
 refine av 12 (.bool true) rfl ar trivial ?_;try simp only [sS,Act.put]
 refine av 13 (.bool true) rfl ar trivial ?_;try simp only [sS,Act.put]
 refine av 14 (.bool true) rfl ar trivial ?_;try simp only [sS,Act.put]
 refine av 16 (.agg #[i64 0,i64 0,.slice (some ⟨L,0,none⟩) 2 2,i64 2,i64 0,i64 0]) rfl ar trivial ?_ (by intro w e0;exact cR 24 (.tmp 5) rfl ⟨E,0,none⟩ rfl _ _ e0.adds rfl rfl (by kernel_rfl));try simp only [sS,Act.put]
 refine cG 15 rfl (fun Kc hK=> ?_);go_simp;refine (RZ.out _).mono ?_;rintro e Y1 ⟨c1,rfl,hx1,hc1,x1⟩;replace HA:=ae (HA.out.ext x1);replace HI:=ae (HI.out.ext x1);replace HX:=ae (HX.out.trans x1)
 have HC:=ae hc1;have B8:=ae hx1
 clear hx1 hc1 x1;refine hK.out _ _ HA.out trivial (fun ar _=> ?_);clear hK Kc;try simp only [sS,Act.put]
 refine cG 17 rfl (fun Kc hK=> ?_);go_simp;have hg:=pz Y1 c1 ⟨0,0,some ⟨L,0,none⟩,2,[0,1],2,0,0⟩ HC.out B8.out.lens HI.out;rw [show fz c1 ⟨0,0,some ⟨L,0,none⟩,2,[0,1],2,0,0⟩=0 from by rw [B8.out.fz (by omega) _ ⟨rfl,rfl,rfl,rfl,rfl,rfl⟩];rfl]at hg;refine hg.mono ?_;rintro e Z1 ⟨rfl,x1⟩;replace HA:=ae (HA.out.ext x1);replace HI:=ae (HI.out.ext x1);replace HX:=ae (HX.out.trans x1)
 clear x1 HC B8 hg;refine hK.out _ _ HA.out trivial (fun ar _=> ?_);clear hK Kc;try simp only [sS,Act.put]
 refine av 18 (.bool true) rfl ar trivial ?_;try simp only [sS,Act.put]
 refine av 19 (.bool true) rfl ar trivial ?_;try simp only [sS,Act.put]
 refine av 20 (.bool true) rfl ar trivial ?_;try simp only [sS,Act.put]
 refine av 22 (.agg #[i64 0,i64 0,.slice (some ⟨L,0,none⟩) 2 2,i64 2,i64 0,i64 0]) rfl ar trivial ?_ (by intro w e0;exact cR 24 (.tmp 5) rfl ⟨E,0,none⟩ rfl _ _ e0.adds rfl rfl (by kernel_rfl));try simp only [sS,Act.put]
 refine cG 21 rfl (fun Kc hK=> ?_);go_simp;refine (RY.out _).mono ?_;rintro e Y2 ⟨c2,rfl,hx2,hc2,x2⟩;replace HA:=ae (HA.out.ext x2);replace HI:=ae (HI.out.ext x2);replace HX:=ae (HX.out.trans x2)
 have HC:=ae hc2;have B8:=ae hx2
 clear hx2 hc2 x2;refine hK.out _ _ HA.out trivial (fun ar _=> ?_);clear hK Kc;try simp only [sS,Act.put]
 refine cG 23 rfl (fun Kc hK=> ?_);go_simp;have hg:=pz Y2 c2 ⟨0,0,some ⟨L,0,none⟩,2,[0,1],2,0,0⟩ HC.out B8.out.lens HI.out;rw [show fz c2 ⟨0,0,some ⟨L,0,none⟩,2,[0,1],2,0,0⟩=72 from by rw [B8.out.fz (by omega) _ ⟨rfl,rfl,rfl,rfl,rfl,rfl⟩];rfl]at hg;refine hg.mono ?_;rintro e Z2 ⟨rfl,x2⟩;replace HA:=ae (HA.out.ext x2);replace HI:=ae (HI.out.ext x2);replace HX:=ae (HX.out.trans x2)
 clear x2 HC B8 hg;refine hK.out _ _ HA.out trivial (fun ar _=> ?_);clear hK Kc;try simp only [sS,Act.put]
 refine av 24 (.bool true) rfl ar trivial ?_;try simp only [sS,Act.put]
 refine av 25 (.bool true) rfl ar trivial ?_;try simp only [sS,Act.put]
 refine av 26 (.bool true) rfl ar trivial ?_;try simp only [sS,Act.put]
 refine ax (by kernel_rfl) ?_ _;go_wp2_with fail
 go_ret;exact ⟨rfl,HX.out⟩
end Go.Proofs.YtkpngkdgphojlaaGreat
