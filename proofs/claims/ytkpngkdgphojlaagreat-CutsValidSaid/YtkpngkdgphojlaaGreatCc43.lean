/- Texts of the proof. -/
import Derived.Test.YtkpngkdgphojlaaGreatCc31
import Derived.Test.YtkpngkdgphojlaaGreatCc32
import Derived.Test.YtkpngkdgphojlaaGreatCc39
set_option linter.all false
namespace Go.Proofs.YtkpngkdgphojlaaGreat
open Go.RowKit
theorem aA.off {w w':World} {a:Option Addr} {c K:Nat} {l:List Int} (h:aA w a c l) (x:ak K w w') (hb:0<l.length→ ∀p,a=some p→p.block≠K):aA w' a c l:=by
 by_cases h0:0<l.length
 ·exact h.fS x (hb h0)
 ·exact ⟨h.le,h.cap,fun i hi=>absurd hi (by omega),fun i hi=>absurd hi (by omega)⟩
set_option maxHeartbeats 4000000 in
set_option maxRecDepth 100000 in
theorem r_ (V:World) (a0:Option Addr) (c0:Nat) (l:List Int) (a1:Option Addr) (c1:Nat) (raw:List Int) (a2:Option Addr) (c2:Nat) (us:List Int) (hour:Int) (x:cq) (c:aq) (zT:Bool)
 (hl:aA V a0 c0 l) (hr:aA V a1 c1 raw) (hu:aA V a2 c2 us) (hh:br hour) (hx:aA V x.ua x.uc x.aj) (hxh:br x.hour) (hc:aT V c) (hm: ∀o∈c.outs,o.moves.length≤5900000000000):
 Calls Tryz.prog 3 #[.slice a0 l.length c0,.slice a1 raw.length c1,.slice a2 us.length c2,i64 hour,.agg #[i64 x.kind,i64 x.hour,.slice x.ua x.aj.length x.uc,i64 x.least,i64 x.unit,i64 x.length],.agg (C8 c),.bool zT] V fun e w'=>e= .returned (.bool true)∧Ext V w':=by
 try unfold C8
 have HL:=ae hl;have HR:=ae hr;have HU:=ae hu;have HH:=ae hh;have WY:=ae hx;have HXH:=ae hxh;have HC:=ae hc;have HM:=ae hm
 clear hl hr hu hh hx hxh hc hm;go_enter Tryz.func3,Tryz.ntmps3
 go_upto_region 1 with fail
 obtain ⟨W0,hW,x0,-,A0,A1⟩:=fP V 24 x.cells 32 c.cells;rw [show(V.alloc (.cells #[i64 x.kind,i64 x.hour,.slice x.ua x.aj.length x.uc,i64 x.least,i64 x.unit,i64 x.length] 24)).alloc (.cells (C8 c) 32)=W0 from hW.symm];obtain ⟨E,hE⟩: ∃E,E=V.heap.size:=⟨_,rfl⟩;obtain ⟨G,hG⟩: ∃G,G=E+1:=⟨_,rfl⟩;rw [←hE]at A0 A1⊢;rw [←hG]at A1⊢;have TC:Hid (V.heap.size≤E∧V.heap.size≤G∧E≠G):=by(show _∧_∧_;omega)
 have HE:=ae A0;have HG:=ae A1;have HX:=ae x0
 clear hW A0 A1 x0 hE hG;obtain ⟨e0,e1,e2,e3,e4,e5⟩:=cq.at HE.out;obtain ⟨k0,k1,k2,k3,k4,k5,k6,k7⟩:=aq.at HG.out;have vU:=ae (zS W0 x);have P8:=ae (fun U (h:Ext V U)=>Kn U c (HC.out.ext h));go_wp2_with fail
 refine (zR W0 a0 a1 l.length raw.length c0 c1).mono ?_;rintro e w ⟨rfl,hw⟩;rw [hw];clear hw;cases (decide (l.length≤200)&&decide (raw.length≤200))with
 |false=>
  go_wp2_with fail
  all_goals (go_ret;exact ⟨rfl,HX.out⟩)
 |true=>
  go_wp2_with fail
  refine vU.out.mono ?_;rintro e W1 ⟨rfl,xx⟩;replace HX:=ae (HX.out.trans xx);replace HE:=ae (HE.out.ext xx);replace HG:=ae (HG.out.ext xx)
  clear xx vU e0 e1 e2 e3 e4 e5 k0 k1 k2 k3 k4 k5 k6 k7;obtain ⟨k0,k1,k2,k3,k4,k5,k6,k7⟩:=aq.at HG.out;cases decide (x.aj.length≤8)with
  |false=>
   go_wp2_with fail
   all_goals (go_ret;exact ⟨rfl,HX.out⟩)
  |true=>
   by_cases h8:8<(us.length:Int)
   ·go_wp2_with fail
    all_goals (go_ret;exact ⟨rfl,HX.out⟩)
   ·go_wp2_with fail
    refine (P8.out W1 HX.out).mono ?_;rintro e W2 ⟨t,rfl,ht,xx⟩;have HTT:=ae ht;replace HX:=ae (HX.out.trans xx);replace HE:=ae (HE.out.ext xx);replace HG:=ae (HG.out.ext xx)
    clear xx P8 ht k0 k1 k2 k3 k4 k5 k6 k7;cases t with
    |false=>
     go_wp2_with fail
     all_goals (go_ret;exact ⟨rfl,HX.out⟩)
    |true=>
     have HLC:Hid (nN c):=by
      have h:=HTT.out rfl;exact ⟨by omega,by omega,by omega,by omega,by omega,by omega,HM.out⟩
     clear HTT HM;have sy:=ae HE.out.lt;have S4:=ae HG.out.lt
     go_wp2_with fail
     refine (C5 W2 a0 c0 l (HL.out.ext HX.out)).mono ?_;rintro e W3 ⟨hh,nb,m,rfl,hc,hm,ha,hbl,x3⟩;clear h8;go_upto_region 4 with(refine bD rfl 32 _ _ rfl jc.cells m.cells rfl rfl (by kernel_rfl) rfl rfl ?_)
     obtain ⟨W4,hW,x4,-,A4⟩:=aB W3 32 m.cells;rw [show W3.alloc (.cells m.cells.toArray 32)=W4 from hW.symm];obtain ⟨M,hM⟩: ∃M,M=W3.heap.size:=⟨_,rfl⟩;rw [←hM]at A4⊢;have S6:=ae (fun U (h:Ext W4 U)=>B_ U m a1 c1 raw x zT ((hc.ext x4).ext h) (HR.out.ext (((HX.out.trans x3).trans x4).trans h)) (WY.out.ext (((HX.out.trans x3).trans x4).trans h)) (by have:=hm.hours;have:=hm.hr;omega) (by have:=hm.aj;omega));have qL:=ae hm.lens;have NR:=ae (hc.ext x4);replace HX:=ae ((HX.out.trans x3).trans x4);have T7:=ae (show W2.heap.size≤M from by rw [hM];exact x3.size);replace HE:=ae ((HE.out.ext x3).ext x4);replace HG:=ae ((HG.out.ext x3).ext x4);have HA:=ae A4
     have IG:=ae (show E<M∧G<M∧M<W4.heap.size∧V.heap.size≤M from by(have h1:=TC.out;have h2:=sy.out;have h3:=S4.out;have h4:=T7.out;have h5:=A4.lt;omega));clear hW x4 A4 hM x3 hc hm ha;obtain ⟨k0,k1,k2,k3,k4,k5,k6,k7⟩:=aq.at HA.out;obtain ⟨e0,e1,e2,e3,e4,e5⟩:=cq.at HE.out;go_wp2_with fail
     refine (S6.out W4 (Ext.refl _)).mono ?_;rintro e W5 ⟨y,rfl,hy,WZ,x5⟩;have CB:=ae (HE.out.ext x5);clear k0 k1 k2 k3 k4 k5 k6 k7 e0 e1 e2 e3 e4 e5 S6;go_upto_region 5 with(refine bF rfl 24 _ _ rfl E x.cells y.cells CB.out rfl rfl (by kernel_rfl) rfl rfl ?_;intro W6 hA6 eT)
     have W_:Hid (0<y.aj.length→ ∀p,y.ua=some p→p.block≠E∧p.block≠M):=fun h0 p hp=>by
      have h1:=IG.out;have h2:=TC.out
      rcases WZ with rfl|⟨-,hf⟩
      ·obtain ⟨b,o,e,hcell⟩:=WY.out.cell 0 h0
       rw [hp]at e;cases e
       have:=cU hcell;constructor<;>(show b≠_;have:b<V.heap.size:=this;omega)
      ·have:=hf p hp;omega
     have HYH:Hid (br y.hour):=by
      rcases WZ with rfl|⟨hf,-⟩
      ·exact HXH.out
      ·exact xI NR.out hf
     have SB:Hid (aA W6 y.ua y.uc y.aj):=hy.off eT (fun h0 p hp=>(W_.out h0 p hp).1);have hne:=IG.out;have Ku:=TC.out
     replace HG:=ae ((HG.out.ext x5).but eT Ku.2.2.symm);replace HA:=ae ((HA.out.ext x5).but eT (by omega));replace HE:=ae hA6
     replace NR:=ae ((NR.out.ext x5).but eT (hbl.mono fun b hb=>by have:=sy.out;omega));replace HX:=ae (eT.ext (HX.out.trans x5) Ku.1);clear hne Ku hA6 eT x5 CB hy WZ hbl WY HXH HR HL;try simp only [sS,Act.put]
     go_cut [52] (fun v52 wx=>v52= .bool (zT&&decide (y.kind=0))∧wx=W6)
     case first=>
      as_aux_lemma=>
       obtain ⟨e0,-,-,-,-,-⟩:=cq.at HE.out;cases zT with
       |false=>
        go_wp2_with fail
        go_meet
        exact ⟨rfl,rfl⟩
       |true=>
        by_cases hk:y.kind=0
        ·go_wp2_with fail
         go_meet
         exact ⟨by simp [hk],rfl⟩
        ·go_wp2_with fail
         go_meet
         exact ⟨by simp [hk],rfl⟩
     case rest=>
      obtain ⟨rfl,hw⟩:=hcut;rw [hw];clear hw;generalize (zT&&decide (y.kind=0))=q at*;go_upto_if 52 with fail
      go_cut [2,3] (fun v2 v3 wx=> ∃(a:Option Addr) (k:Nat) (r:List Int) (h:Int),v2= .slice a r.length k∧v3=i64 h∧aA wx a k r∧(0<r.length→ ∀p,a=some p→p.block≠M)∧br h∧Ext W6 wx)
      case first=>
       as_aux_lemma=>
        cases q with
        |false=>
         go_wp2_with fail
         go_meet
         exact ⟨a2,c2,us,hour,rfl,rfl,HU.out.ext HX.out,fun h0 p hp=>by
          obtain ⟨b,o,e,hcell⟩:=HU.out.cell 0 h0;rw [hp]at e;cases e
          have h1:=cU hcell;have h2:=IG.out
          show b≠M;have:b<V.heap.size:=h1;omega,HH.out,Ext.refl _⟩
        |true=>
         go_upto_region 6 with fail
         refine ay (fun w'=>aG w' E 24 y.cells) (fun _=>True) (fun _=>false) (by kernel_rfl) HE.out trivial (fun ar _=> ?_);refine av 0 (.pointer (some ⟨E,1,none⟩)) rfl ar trivial ?_;try simp only [sS,Act.put]
         refine av 1 (i64 y.hour) rfl ar trivial ?_ (by intro w e0;have h2:w.cell? ⟨E,1,none⟩=some (i64 y.hour):=(e0.cell 1).trans rfl;go_simp);try simp only [sS,Act.put]
         refine av 2 (.pointer (some ⟨E,2,none⟩)) rfl ar trivial ?_;try simp only [sS,Act.put]
         refine av 3 (.slice y.ua y.aj.length y.uc) rfl ar trivial ?_ (by intro w e0;have h2:w.cell? ⟨E,2,none⟩=some (.slice y.ua y.aj.length y.uc):=(e0.cell 2).trans rfl;go_simp);try simp only [sS,Act.put]
         refine av 4 (i64 y.hour) rfl ar trivial ?_;try simp only [sS,Act.put]
         refine av 5 (.slice y.ua y.aj.length y.uc) rfl ar trivial ?_;try simp only [sS,Act.put]
         refine ax (by kernel_rfl) ?_ _;go_wp2_with fail
         go_meet
         exact ⟨y.ua,y.uc,y.aj,y.hour,rfl,rfl,SB.out.ext ((Ext.refl _).drew),fun h0 p hp=>(W_.out h0 p hp).2,HYH.out,(Ext.refl _).drew⟩
      case rest=>
       obtain ⟨a,k,r,h,rfl,rfl,hI,Es,hh,xc⟩:=hcut;generalize wc=W7 at*;have HI:=ae hI;have HOF:=ae Es;have HH2:=ae hh
       replace HE:=ae (HE.out.ext xc);replace HG:=ae (HG.out.ext xc);replace HA:=ae (HA.out.ext xc);replace NR:=ae (NR.out.ext xc);replace SB:=ae (SB.out.ext xc);replace HX:=ae (HX.out.trans xc)
       clear hI Es hh xc HU HH;go_wp2_with fail
       go_loopw [16] (fun iv wr=> ∃(i:Nat) (cc:aq),i≤2∧aG wr M 32 cc.cells∧aT wr cc∧nN cc∧aG wr E 24 y.cells∧aG wr G 32 c.cells∧aA wr y.ua y.uc y.aj∧aA wr a k r∧Ext V wr∧iv= .int .i64 i) (fun iv _=>2-(intOf iv).toNat)
       case atStart=>exact ⟨0,m,by omega,HA.out,NR.out,qL.out,HE.out,HG.out,SB.out,HI.out,HX.out,rfl⟩
       case round=>
        clear HA NR qL HE HG SB HI HX;obtain ⟨i,cc,hi,hA,hC,hL,hE,hG,hY,hI,hX,rfl⟩:=hrel;by_cases hlt:i<2
        ·have fM:(0:Int)≤(i:Int):=by omega
         have fH:(i:Int)<2:=by omega
         obtain ⟨⟨g1,g2⟩,OI⟩: ∃g,g=kP cc h r:=⟨_,rfl⟩;obtain ⟨v,hv⟩: ∃v,v=fz cc y:=⟨_,rfl⟩;have Xa:=ae (fun U (e:Ext wr U)=>jf U cc h a k r (hC.ext e) hL (hI.ext e) HH2.out);have OJ:=ae (fun U (e:Ext wr U)=>xH U cc h a k r (hC.ext e) hL (hI.ext e) HH2.out);have Xb:=ae (fun U (e:Ext wr U)=>pz U cc y (hC.ext e) hL (hY.ext e));have RM:=ae (fun U (e:Ext wr U)=>DX U cc y (hC.ext e) hL (hY.ext e));rw [←OI]at Xa OJ;rw [←hv]at Xb RM;have HA:=ae hA;have HE:=ae hE;have HG:=ae hG;have HY:=ae hY;have HI:=ae hI;have HX:=ae hX
         have rC:=ae (Ext.refl wr);clear hA hC hL hE hG hY hI hX OI hv;obtain ⟨k0,k1,k2,k3,k4,k5,k6,k7⟩:=aq.at HA.out;go_wp2_with fail
         refine (Xa.out wr rC.out).mono ?_;rintro e W8 ⟨rfl,xx⟩;replace rC:=ae (rC.out.trans xx);clear xx k0 k1 k2 k3 k4 k5 k6 k7;obtain ⟨k0,k1,k2,k3,k4,k5,k6,k7⟩:=aq.at (HA.out.ext rC.out);go_wp2_with fail
         refine (OJ.out W8 rC.out).mono ?_;rintro e W9 ⟨rfl,xx⟩;replace rC:=ae (rC.out.trans xx);clear xx k0 k1 k2 k3 k4 k5 k6 k7 Xa OJ;go_upto_region 12 with fail
         refine ay (fun w'=>aG w' M 32 cc.cells∧aG w' E 24 y.cells) (fun _=>True) (fun _=>false) (by kernel_rfl) ⟨HA.out.ext rC.out.drew,HE.out.ext rC.out.drew⟩ trivial (fun ar _=> ?_);obtain ⟨Y0,qJ⟩: ∃Y0,Y0=W9.drew:=⟨_,rfl⟩;have hd:Ext W9 Y0:=by rw [qJ];exact (Ext.refl W9).drew
         rw [←qJ]at ar⊢;replace rC:=ae (rC.out.trans hd);clear hd qJ;refine cG 0 rfl (fun Kc hK=> ?_);go_simp;refine (rz _).mono ?_;rintro e Y1 ⟨rfl,xx⟩;replace rC:=ae (rC.out.trans xx);refine hK.out _ _ ⟨ar.1.ext xx,ar.2.ext xx⟩ trivial (fun ar _=> ?_);clear hK Kc xx;try simp only [sS,Act.put]
         refine av 1 (.bool false) rfl ar trivial ?_;try simp only [sS,Act.put]
         refine av 2 (.bool false) rfl ar trivial ?_;try simp only [sS,Act.put]
         refine av 3 (.agg cc.cells.toArray) rfl ar trivial ?_ (by intro w e0;exact cR 32 (.tmp 15) rfl ⟨M,0,none⟩ rfl _ _ e0.1.adds rfl rfl (by kernel_rfl));try simp only [sS,Act.put]
         refine av 4 (.agg y.cells.toArray) rfl ar trivial ?_ (by intro w e0;exact cR 24 (.tmp 11) rfl ⟨E,0,none⟩ rfl _ _ e0.2.adds rfl rfl (by kernel_rfl));try simp only [sS,Act.put]
         refine av 6 (.agg cc.cells.toArray) rfl ar trivial ?_ (by intro w e0;exact cR 32 (.tmp 15) rfl ⟨M,0,none⟩ rfl _ _ e0.1.adds rfl rfl (by kernel_rfl));try simp only [sS,Act.put]
         refine av 7 (.agg y.cells.toArray) rfl ar trivial ?_ (by intro w e0;exact cR 24 (.tmp 11) rfl ⟨E,0,none⟩ rfl _ _ e0.2.adds rfl rfl (by kernel_rfl));try simp only [sS,Act.put]
         refine cG 5 rfl (fun Kc hK=> ?_);go_simp;refine (Xb.out _ rC.out).mono ?_;rintro e Y2 ⟨rfl,xx⟩;replace rC:=ae (rC.out.trans xx);refine hK.out _ _ ⟨ar.1.ext xx,ar.2.ext xx⟩ trivial (fun ar _=> ?_);clear hK Kc xx;try simp only [sS,Act.put]
         refine cG 8 rfl (fun Kc hK=> ?_);go_simp;refine (RM.out _ rC.out).mono ?_;rintro e Y3 ⟨rfl,xx⟩;replace rC:=ae (rC.out.trans xx);refine hK.out _ _ ⟨ar.1.ext xx,ar.2.ext xx⟩ trivial (fun ar _=> ?_);clear hK Kc xx;try simp only [sS,Act.put]
         refine av 9 (.bool false) rfl ar trivial ?_;try simp only [sS,Act.put]
         refine av 10 (.bool false) rfl ar trivial ?_;try simp only [sS,Act.put]
         refine av 11 (.bool false) rfl ar trivial ?_;try simp only [sS,Act.put]
         refine av 12 (i64 g1) rfl ar trivial ?_;try simp only [sS,Act.put]
         refine av 13 (i64 g1) rfl ar trivial ?_;try simp only [sS,Act.put]
         refine av 14 (.bool false) rfl ar trivial ?_;try simp only [sS,Act.put]
         refine av 15 (.bool false) rfl ar trivial ?_;try simp only [sS,Act.put]
         refine av 16 (.bool false) rfl ar trivial ?_;try simp only [sS,Act.put]
         refine av 17 (i64 g2) rfl ar trivial ?_;try simp only [sS,Act.put]
         refine av 18 (i64 g2) rfl ar trivial ?_;try simp only [sS,Act.put]
         refine av 19 (.bool false) rfl ar trivial ?_;try simp only [sS,Act.put]
         refine av 20 (.bool false) rfl ar trivial ?_;try simp only [sS,Act.put]
         refine ax (by kernel_rfl) ?_ _;clear Xb RM;have hML:=((HA.out.ext rC.out));have hGL:=(HG.out.ext rC.out).adds;have hne:=IG.out;have Ku:=TC.out
         go_wp2_with (first|(refine aQ rfl 32 _ rfl ⟨G,0,none⟩ rfl c.cells _ hGL rfl rfl (by kernel_rfl) ?_)|(refine bF rfl 32 _ _ rfl M cc.cells c.cells hML rfl rfl (by kernel_rfl) rfl rfl ?_;intro jG jP dO))
         have wH:Ext V jG:=dO.ext (HX.out.trans rC.out) hne.2.2.2;exact ⟨⟨i+1,c,by omega,jP,HC.out.ext wH,HLC.out,(HE.out.ext rC.out).but dO (by omega),(HG.out.ext rC.out).but dO (by omega),(HY.out.ext rC.out).off dO (fun h0 p hp=>(W_.out h0 p hp).2),(HI.out.ext rC.out).off dO HOF.out,wH,by go_num⟩,by simp only [intOf];omega⟩
        ·obtain rfl:i=2:=by omega
         go_wp2_with fail
         go_ret;exact ⟨rfl,hX⟩
end Go.Proofs.YtkpngkdgphojlaaGreat
