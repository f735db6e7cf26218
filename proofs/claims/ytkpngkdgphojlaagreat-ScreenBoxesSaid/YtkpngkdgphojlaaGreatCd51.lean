/- Texts of the proof. -/
import Derived.Test.YtkpngkdgphojlaaGreatCd33
import Derived.Test.YtkpngkdgphojlaaGreatCd38
import Derived.Test.YtkpngkdgphojlaaGreatCd47
import Derived.Test.YtkpngkdgphojlaaGreatCd50
set_option linter.all false
set_option maxHeartbeats 4000000
set_option maxRecDepth 100000
namespace Go.Proofs.YtkpngkdgphojlaaGreat
open Go.Proofs.Tryz
open Go.RowKit
theorem qJ (V:World) (a0:Option Addr) (c0:Nat) (l:List Int) (a1:Option Addr) (c1:Nat) (raw:List Int) (a2:Option Addr) (c2:Nat) (ks:List KV) (hour which:Int) (TY:Bool) (c:ai)
 (hl:aD V a0 c0 l) (hr:aD V a1 c1 raw) (hk:iI V a2 c2 ks) (hh:bp hour) (hw:bp which) (hc:aS V c) (hm: ∀o∈c.outs,o.moves.length≤5900000000000):
 Calls prog 6 #[.slice a0 l.length c0,.slice a1 raw.length c1,.slice a2 ks.length c2,i64 hour,i64 which,.bool TY,.agg (C8 c)] V fun e w'=>e= .returned (.bool true)∧Ext V w':=by
 try unfold C8
 have HL:=ae hl;have HR:=ae hr;have HK:=ae hk;have HH:=ae hh;have HWH:=ae hw;have HC:=ae hc;have HM:=ae hm
 clear hl hr hk hh hw hc hm;go_enter func6,ntmps6
 go_upto_region 1 with fail
 obtain ⟨W0,hW,x0,-,A0⟩:=aH V 32 c.cells;rw [show V.alloc (.cells (C8 c) 32)=W0 from hW.symm];obtain ⟨G,hG⟩: ∃G,G=V.heap.size:=⟨_,rfl⟩;rw [←hG]at A0⊢;have HGV:Hid (V.heap.size≤G):=by show _≤_;omega
 have HG:=ae A0;have HX:=ae x0
 clear hW A0 x0 hG;obtain ⟨k0,k1,k2,k3,k4,k5,k6,k7⟩:=ai.at HG.o;have HTA:=ae (Bg W0 a2 c2 ks (HK.o.ext HX.o));have R_:=ae (fun U (h:Ext V U)=>LM U c (HC.o.ext h));go_wp2_with fail
 refine (Jp W0 a0 a1 l.length raw.length c0 c1).mono ?_;rintro e w ⟨rfl,hw⟩;rw [hw];clear hw;cases (decide (l.length≤200)&&decide (raw.length≤200))with
 |false=>
  go_wp2_with fail
  all_goals (go_ret;exact ⟨rfl,HX.o⟩)
 |true=>
  go_wp2_with fail
  refine HTA.o.mono ?_;rintro e W1 ⟨t,rfl,xx⟩;replace HX:=ae (HX.o.trans xx);replace HG:=ae (HG.o.ext xx)
  clear xx HTA k0 k1 k2 k3 k4 k5 k6 k7;obtain ⟨k0,k1,k2,k3,k4,k5,k6,k7⟩:=ai.at HG.o;cases t with
  |false=>
   go_wp2_with fail
   all_goals (go_ret;exact ⟨rfl,HX.o⟩)
  |true=>
   go_wp2_with fail
   refine (R_.o W1 HX.o).mono ?_;rintro e W2 ⟨t,rfl,ht,xx⟩;have mQ:=ae ht;replace HX:=ae (HX.o.trans xx);replace HG:=ae (HG.o.ext xx)
   clear xx R_ ht k0 k1 k2 k3 k4 k5 k6 k7;cases t with
   |false=>
    go_wp2_with fail
    all_goals (go_ret;exact ⟨rfl,HX.o⟩)
   |true=>
    have HLC:Hid (oW c):=by
     have h:=mQ.o rfl;exact ⟨by omega,by omega,by omega,by omega,by omega,by omega,HM.o⟩
    clear mQ HM;have PW:=ae HG.o.lt;go_wp2_with fail
    refine (LX W2 a0 c0 l (HL.o.ext HX.o)).mono ?_;rintro e W3 ⟨hh,nb,m,rfl,hc,hm,ha,hbl,x3⟩;go_upto_region 4 with(refine dw rfl 32 _ _ rfl Bd.cells m.cells rfl rfl (by kernel_rfl) rfl rfl ?_)
    obtain ⟨W4,hW,x4,-,A4⟩:=aH W3 32 m.cells;rw [show W3.alloc (.cells m.cells.toArray 32)=W4 from hW.symm];obtain ⟨M,hM⟩: ∃M,M=W3.heap.size:=⟨_,rfl⟩;rw [←hM]at A4⊢;have HCH:=ae (yY W4 m a2 c2 ks a1 c1 raw which (hc.ext x4) (HK.o.ext ((HX.o.trans x3).trans x4)) (HR.o.ext ((HX.o.trans x3).trans x4)) HWH.o (by have h1:=hm.hours;have h2:=hm.hr;omega) (by have:=hm.au;omega));have rV:=ae hm.lens;have HMH:=ae hm.hours;have GV:=ae hm.hr
    have Vp:=ae (hc.ext x4);have VQ:=ae (show W2.heap.size≤M from by rw [hM];exact x3.size);replace HG:=ae ((HG.o.ext x3).ext x4);have HA:=ae A4
    have HML:=ae (show G<M∧M<W4.heap.size∧V.heap.size≤M from by(have h3:=PW.o;have h4:=VQ.o;have h5:=A4.lt;have h6:=HGV.o;omega));replace HX:=ae ((HX.o.trans x3).trans x4);clear hW x4 A4 hM x3 hc hm ha hbl;obtain ⟨k0,k1,k2,k3,k4,k5,k6,k7⟩:=ai.at HA.o;go_wp2_with fail
    refine HCH.o.mono ?_;rintro e W5 ⟨a',PT,Km,rfl,vV,x5,Pe⟩;have Vq:=ae vV
    have HKO:Hid ((0<Km.length→ ∀p,a'=some p→p.block≠M)∧ ∀k∈Km,0<k.l.length→ ∀p,k.a=some p→p.block≠M):=by
     have h1:=HML.o;rcases Pe with⟨rfl,rfl⟩|hn
     ·exact HK.o.OY h1.2.2
     ·exact ⟨fun _ p hp=>by have:=hn.own p hp;omega,fun k hk _ p hp=>by have:=hn.row k hk p hp;omega⟩
    replace HG:=ae (HG.o.ext x5);replace HA:=ae (HA.o.ext x5);replace Vp:=ae (Vp.o.ext x5);replace HX:=ae (HX.o.trans x5)
    clear vV Pe x5 HCH HK HR HL k0 k1 k2 k3 k4 k5 k6 k7;go_upto_if 44 with fail
    go_cut [3] (fun v3 wx=> ∃h:Int,v3=i64 h∧wx=W5)
    case first=>
     as_aux_lemma=>
      cases TY with
      |false=>
       go_wp2_with fail
       go_meet
       exact ⟨hour,rfl,rfl⟩
      |true=>
       obtain ⟨k0,-,-,-,-,-,-,-⟩:=ai.at HA.o;rw [HMH.o]at k0;have De:=ae (uq W5 hour ((hh:Int)+2) HH.o.1 (by have:=HH.o.2;omega) (by omega) (by have:=GV.o;omega));have hr:=GV.o;go_wp2_with fail
       refine De.o.mono ?_;rintro e w1 ⟨rfl,hw⟩;rw [←hw];clear hw;go_wp2_with fail
       go_meet
       exact ⟨_,rfl,rfl⟩
    case rest=>
     obtain ⟨h,rfl,hw⟩:=hcut;rw [hw];clear hw HH HWH HMH GV;go_wp2_with fail
     go_loopw [16] (fun iv wr=> ∃(i:Nat) (cc:ai),i≤2∧aJ wr M 32 cc.cells∧aS wr cc∧oW cc∧aJ wr G 32 c.cells∧iI wr a' PT Km∧Ext V wr∧iv= .int .i64 i) (fun iv _=>2-(intOf iv).toNat)
     case atStart=>exact ⟨0,m,by omega,HA.o,Vp.o,rV.o,HG.o,Vq.o,HX.o,rfl⟩
     case round=>
      clear HA Vp rV HG Vq HX;obtain ⟨i,cc,hi,hA,hC,hL,hG,hK,hX,rfl⟩:=hrel;by_cases hlt:i<2
      ·have f_:(0:Int)≤(i:Int):=by omega
       have fU:(i:Int)<2:=by omega
       have HBA:=ae (fun U (e:Ext wr U)=>OX U cc a' PT Km h (hC.ext e) hL (hK.ext e));have wC:=ae (fun U (e:Ext wr U)=>LL U cc a' PT Km h (hC.ext e) hL (hK.ext e));have jE:=ae hL.ak;have HA:=ae hA;have HG:=ae hG;have Vq:=ae hK;have HX:=ae hX
       have Aa:=ae (Ext.refl wr);clear hA hC hL hG hK hX;obtain ⟨k0,k1,k2,k3,k4,k5,k6,k7⟩:=ai.at HA.o;go_wp2_with fail
       refine (HBA.o wr Aa.o).mono ?_;rintro e W8 hq;obtain ⟨xx,va,vb,rfl,hv⟩:=hq.vals;have PM:=ae hv;replace Aa:=ae (Aa.o.trans xx);clear hq xx hv k0 k1 k2 k3 k4 k5 k6 k7;obtain ⟨k0,k1,k2,k3,k4,k5,k6,k7⟩:=ai.at (HA.o.ext Aa.o);go_wp2_with fail
       refine (wC.o W8 Aa.o).mono ?_;rintro e W9 hq;obtain ⟨xx,Vb,Vc,rfl,hv⟩:=hq.vals;have Zd:=ae (B8.two jE.o (PM.o.ext xx) hv);replace Aa:=ae (Aa.o.trans xx);clear hq xx hv k0 k1 k2 k3 k4 k5 k6 k7 PM HBA wC;go_wp2_with fail
       refine (Cq _).mono ?_;rintro e Y1 ⟨rfl,xx⟩;replace Aa:=ae (Aa.o.trans xx);have lW:=ae (Zd.o.1.ext xx);have mX:=ae (Zd.o.2.ext xx)
       clear xx Zd;go_wp2_with fail
       refine (qA Y1 va Vb lW.o).mono ?_;rintro e Y2 ⟨rfl,xx⟩;replace Aa:=ae (Aa.o.trans xx);replace mX:=ae (mX.o.ext xx)
       clear xx lW;go_wp2_with fail
       refine (qA Y2 vb Vc mX.o).mono ?_;rintro e Y3 ⟨rfl,xx⟩;replace Aa:=ae (Aa.o.trans xx);clear xx mX;have hML:=((HA.o.ext Aa.o));have hGL:=(HG.o.ext Aa.o).adds;have hne:=HML.o;go_wp2_with (first|(refine bG rfl 32 _ rfl ⟨G,0,none⟩ rfl c.cells _ hGL rfl rfl (by kernel_rfl) ?_)|(refine dM rfl 32 _ _ rfl M cc.cells c.cells hML rfl rfl (by kernel_rfl) rfl rfl ?_;intro v_ rE ij))
       have TZ:Ext V v_:=ij.ext (HX.o.trans Aa.o) hne.2.2;exact ⟨⟨i+1,c,by omega,rE,HC.o.ext TZ,HLC.o,(HG.o.ext Aa.o).but ij (by omega),(Vq.o.ext Aa.o).off ij HKO.o.1 HKO.o.2,TZ,by go_num⟩,by simp only [intOf];omega⟩
      ·obtain rfl:i=2:=by omega
       go_wp2_with fail
       go_ret;exact ⟨rfl,hX⟩
open Go.ChangeShapes Go.WideShapes Go.ChangeAt
theorem Tryz.laidOut:laidOutB Tryz.prog=true:=by kernel_rfl
def yt (k:IntKind) (w:World) (a:Option Addr) (len cap:Nat) (zs:List Int):Prop:=
 (a=none∧len=0∧cap=0∧zs= [])∨
 ∃x,a=some x∧len≤cap∧cap≤maxLen∧zs.length=cap∧(∀i,i<zs.length→w.cell? (x.add i)=some (.int k (zs.getD i 0)))∧ ∀n∈zs,(Lit.int k n).wf=true
theorem wf_i64 {n:Int} (h:(Lit.int .i64 n).wf=true): -9223372036854775808≤n∧n<9223372036854775808:=by
 simp [Lit.wf,IntKind.min,IntKind.max,IntKind.signed,IntKind.bits]at h;omega
theorem yt.M_ {w:World} {a:Option Addr} {len cap:Nat} {zs:List Int} (h:yt .i64 w a len cap zs):(zs.take len).length=len∧aD w a cap (zs.take len):=by
 rcases h with⟨rfl,rfl,rfl,rfl⟩|⟨x,rfl,h1,h2,h3,h4,h5⟩
 ·exact ⟨rfl,⟨Nat.le_refl _,by omega,fun i hi=>absurd hi (Nat.not_lt_zero _),fun i hi=>absurd hi (Nat.not_lt_zero _)⟩⟩
 ·have hl:(zs.take len).length=len:=by rw [List.length_take];omega
  refine ⟨hl,⟨by omega,by unfold maxLen at h2;omega,fun i hi=> ?_,fun i hi=> ?_⟩⟩
  ·have hc:=h4 i (by omega)
   obtain ⟨b,off,spot⟩:=x;have hspot:spot=none:=by simpa [Addr.add]using World.cell?_spot (h4 0 (by omega))
   subst hspot;refine ⟨b,off,rfl,?_⟩;rw [show(Addr.add ⟨b,off,none⟩ i)=⟨b,off+i,none⟩from by unfold Addr.add;split<;>simp_all]at hc;rw [hc,List.getElem_take];have hi':i<zs.length:=by omega
   simp [hi']
  ·rw [List.getElem_take]
   exact wf_i64 (h5 _ (List.getElem_mem _))
end Go.Proofs.YtkpngkdgphojlaaGreat
