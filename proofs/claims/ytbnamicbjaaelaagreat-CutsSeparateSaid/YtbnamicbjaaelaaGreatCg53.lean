/- Texts of the proof. -/
import Derived.Test.YtbnamicbjaaelaaGreatCg41
import Derived.Test.YtbnamicbjaaelaaGreatCg52
set_option linter.all false
set_option maxHeartbeats 4000000
set_option maxRecDepth 100000
namespace Go.Proofs.YtbnamicbjaaelaaGreat
open Go.Proofs.Tryz
open Go.RowKit
theorem Ez (V:World):Calls prog 12 #[] V λe w'=>e= .returned (.bool true)/\Ext V w':=by
 have z0:b_ 0:=by unfold b_;omega
 have z1:b_ 1:=by unfold b_;omega
 have X8:=ah (λU=>qh U 50 (by unfold b_;omega));have X9:=ah (λU=>qh U 51 (by unfold b_;omega));go_enter func12,ntmps12
 go_wp2_with fail
 refine (X8.o V).mono ?_;rintro e W1 ⟨c1,rfl,hx,hc,x1⟩;have HX:=ah x1;have hg:=uZ (W1.alloc (.cells #[i64 0,i64 1] 3)) c1 0 (some ⟨W1.heap.size,0,none⟩) 2 [0,1] (hc.ext (ar.alloc _)) hx.lens (aS.two W1 0 1 z0 z1) z0;rw [show yi c1 0 [0,1]=(1,0)from by rw [hx.yi ae];rfl]at hg;dsimp only at hg
 have HG:=ah hg;have HY:=ah ((Ext.refl W1).alloc (.cells #[i64 0,i64 1] 3))
 clear hx hc x1 hg;go_wp2_with fail
 refine HG.o.mono ?_;rintro e W2 ⟨rfl,x2⟩;replace HX:=ah ((HX.o.trans HY.o).trans x2);clear x2 HG HY;go_wp2_with fail
 refine (X9.o W2).mono ?_;rintro e W3 ⟨c3,rfl,hx,hc,x1⟩;replace HX:=ah (HX.o.trans x1);have hg:=uZ (W3.alloc (.cells #[i64 0,i64 1] 3)) c3 0 (some ⟨W3.heap.size,0,none⟩) 2 [0,1] (hc.ext (ar.alloc _)) hx.lens (aS.two W3 0 1 z0 z1) z0;rw [show yi c3 0 [0,1]=(2,0)from by rw [hx.yi ae];rfl]at hg;dsimp only at hg
 have HG:=ah hg;have HY:=ah ((Ext.refl W3).alloc (.cells #[i64 0,i64 1] 3))
 clear hx hc x1 hg;go_wp2_with fail
 refine HG.o.mono ?_;rintro e W4 ⟨rfl,x2⟩;replace HX:=ah ((HX.o.trans HY.o).trans x2);clear x2 HG HY;go_upto_region 4 with(refine bP rfl 24 _ _ rfl ajl.cells [i64 0,i64 0,.slice (some ⟨W4.heap.size,0,none⟩) 2 2,i64 2,i64 0,i64 0] rfl rfl ax rfl rfl ?_)
 obtain ⟨W5,hW,x5,-,A5⟩:=aV W4 3 [i64 0,i64 1];have TF:aS W5 (some ⟨W4.heap.size,0,none⟩) 2 [0,1]:=by rw [hW];exact aS.two W4 0 1 z0 z1
 rw [show W4.alloc (.cells #[i64 0,i64 1] 3)=W5 from hW.symm];obtain ⟨L,hL⟩: ∃L,L=W4.heap.size:=⟨_,rfl⟩;rw [<-hL]at TF⊢;have K0:W5.heap.size=L+1:=by rw [hW,hL];simp
 replace HX:=ah (HX.o.trans x5);clear hW x5 A5 hL;obtain ⟨W6,hW,x6,-,A6⟩:=aV W5 24 [i64 0,i64 0,.slice (some ⟨L,0,none⟩) 2 2,i64 2,i64 0,i64 0];rw [show W5.alloc (.cells #[i64 0,i64 0,.slice (some ⟨L,0,none⟩) 2 2,i64 2,i64 0,i64 0] 24)=W6 from hW.symm];obtain ⟨E,hE⟩: ∃E,E=L+1:=⟨_,rfl⟩;rw [K0,<-hE]at A6;rw [<-hE];replace HX:=ah (HX.o.trans x6);have HI:=ah (TF.ext x6);have HA:=ah A6
 clear hW x6 A6 hE TF K0;refine aO (λw'=>aT w' E 24 [i64 0,i64 0,.slice (some ⟨L,0,none⟩) 2 2,i64 2,i64 0,i64 0]) (λ_=>True) (λ_=>false) ax HA.o trivial (λaD _=> ?_);obtain ⟨Y0,Gt⟩: ∃Y0,Y0=W6.drew:=⟨_,rfl⟩;have hd:Ext W6 Y0:=by rw [Gt];exact (Ext.refl W6).drew
 rw [<-Gt]at aD⊢;replace HA:=ah aD;replace HI:=ah (HI.o.ext hd);replace HX:=ah (HX.o.trans hd)
 clear hd Gt;refine aJ 0 aD trivial ?_ (v:=i64 1);refine aJ 1 aD trivial ?_;refine aJ 2 aD trivial ?_;refine aJ 3 aD trivial ?_ (v:=i64 0);refine aJ 4 aD trivial ?_;refine aJ 5 aD trivial ?_;refine aJ 6 aD trivial ?_;refine aJ 7 aD trivial ?_ (v:=i64 2);refine aJ 8 aD trivial ?_;refine aJ 9 aD trivial ?_;refine aJ 10 aD trivial ?_;refine aJ 11 aD trivial ?_ (v:=i64 0);refine aJ 12 aD trivial ?_;refine aJ 13 aD trivial ?_;refine aJ 14 aD trivial ?_;refine aJ 16 aD trivial ?_ (v:= .agg #[i64 0,i64 0,.slice (some ⟨L,0,none⟩) 2 2,i64 2,i64 0,i64 0]) (hy:=by intro w e0;exact jd 24 (.tmp 5) rfl ⟨E,0,none⟩ rfl _ _ e0.adds rfl rfl ax);refine eI 15 rfl (λKc hK=> ?_);go_simp;refine (X9.o _).mono ?_;rintro e Y1 ⟨c1,rfl,hx1,hc1,x1⟩;replace HA:=ah (HA.o.ext x1);replace HI:=ah (HI.o.ext x1);replace HX:=ah (HX.o.trans x1)
 have HC:=ah hc1;have ND:=ah hx1
 clear hx1 hc1 x1;refine hK.o _ _ HA.o trivial (λaD _=> ?_);clear hK Kc;try simp only [sS,Act.put]
 refine eI 17 rfl (λKc hK=> ?_);go_simp;have hg:=Ep Y1 c1 ⟨0,0,some ⟨L,0,none⟩,2,[0,1],2,0,0⟩ HC.o ND.o.lens HI.o;rw [show mB c1 ⟨0,0,some ⟨L,0,none⟩,2,[0,1],2,0,0⟩=0 from by rw [ND.o.mB ae _ ⟨rfl,rfl,rfl,rfl,rfl,rfl⟩];rfl]at hg;refine hg.mono ?_;rintro e Z1 ⟨rfl,x1⟩;replace HA:=ah (HA.o.ext x1);replace HI:=ah (HI.o.ext x1);replace HX:=ah (HX.o.trans x1)
 clear x1 HC ND hg;refine hK.o _ _ HA.o trivial (λaD _=> ?_);clear hK Kc;try simp only [sS,Act.put]
 refine aJ 18 aD trivial ?_;refine aJ 19 aD trivial ?_;refine aJ 20 aD trivial ?_;refine aJ 22 aD trivial ?_ (v:= .agg #[i64 0,i64 0,.slice (some ⟨L,0,none⟩) 2 2,i64 2,i64 0,i64 0]) (hy:=by intro w e0;exact jd 24 (.tmp 5) rfl ⟨E,0,none⟩ rfl _ _ e0.adds rfl rfl ax);refine eI 21 rfl (λKc hK=> ?_);go_simp;refine (X8.o _).mono ?_;rintro e Y2 ⟨c2,rfl,hx2,hc2,x2⟩;replace HA:=ah (HA.o.ext x2);replace HI:=ah (HI.o.ext x2);replace HX:=ah (HX.o.trans x2)
 have HC:=ah hc2;have ND:=ah hx2
 clear hx2 hc2 x2;refine hK.o _ _ HA.o trivial (λaD _=> ?_);clear hK Kc;try simp only [sS,Act.put]
 refine eI 23 rfl (λKc hK=> ?_);go_simp;have hg:=Ep Y2 c2 ⟨0,0,some ⟨L,0,none⟩,2,[0,1],2,0,0⟩ HC.o ND.o.lens HI.o;rw [show mB c2 ⟨0,0,some ⟨L,0,none⟩,2,[0,1],2,0,0⟩=72 from by rw [ND.o.mB ae _ ⟨rfl,rfl,rfl,rfl,rfl,rfl⟩];rfl]at hg;refine hg.mono ?_;rintro e Z2 ⟨rfl,x2⟩;replace HA:=ah (HA.o.ext x2);replace HI:=ah (HI.o.ext x2);replace HX:=ah (HX.o.trans x2)
 clear x2 HC ND hg;refine hK.o _ _ HA.o trivial (λaD _=> ?_);clear hK Kc;try simp only [sS,Act.put]
 refine aJ 24 aD trivial ?_;refine aJ 25 aD trivial ?_;refine aJ 26 aD trivial ?_;refine aI ax ?_ _;go_wp2
 go_ret;exact ⟨rfl,HX.o⟩
