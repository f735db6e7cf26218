/- Texts of the proof. -/
import Derived.Test.YtkpngkdgphojlaaGreatCf40
import Derived.Test.YtkpngkdgphojlaaGreatCf53
set_option linter.all false
set_option maxHeartbeats 4000000
set_option maxRecDepth 100000
namespace Go.Proofs.YtkpngkdgphojlaaGreat
open Go.Proofs.Tryz
open Go.RowKit
theorem mh (V:World) (c:ai) (a0:Option Addr) (c0:Nat) (l:List Int) (UA:Bool) (hc:a_ V c) (hm: ∀o∈c.outs,o.moves.length≤5900000000000) (hl:aI V a0 c0 l):
 Calls prog 5 #[.agg (C8 c),.slice a0 l.length c0,.bool UA] V fun e w'=>e= .returned (.bool true)∧Ext V w':=by
 try unfold C8
 have HL:=ae hl;have HC:=ae hc;have HM:=ae hm
 clear hl hc hm;go_enter func5,ntmps5
 go_upto_region 1 with fail
 generalize hW:World.alloc V _=W0;obtain ⟨G,hG,x0,A0⟩:=bX hW;rw [←hG];have HGV:Hid (V.heap.size≤G):=by show _≤_;omega
 have HG:=ae A0;have HX:=ae x0
 clear hW A0 x0 hG;have k0:=ai.at HG.o;go_wp2_with fail
 refine (L_ W0 c (HC.o.ext HX.o)).mono ?_;rintro e W2 ⟨t,rfl,ht,xx⟩;have HTT:=ae ht;replace HX:=ae (HX.o.trans xx);replace HG:=ae (HG.o.ext xx)
 clear xx ht k0;cases t with
 |false=>
  go_wp2_with fail
  all_goals (go_ret;exact ⟨rfl,HX.o⟩)
 |true=>
  by_cases hlen:(200:Int)<(l.length:Int)
  ·go_wp2_with fail
   all_goals (go_ret;exact ⟨rfl,HX.o⟩)
  ·have Z8:Hid (oA c∧c.aq.length+c.stores.length+c.aB.length+c.aj.length≤10000):=by
    have h:=HTT.o rfl;exact ⟨⟨by omega,by omega,by omega,by omega,by omega,by omega,HM.o⟩,by omega⟩
   clear HTT HM;go_upto_region 3 with fail
   go_upto_if 21 with fail
   go_cut [] (fun wx=> ∃d:ai,Ext V wx∧a_ wx d∧oA d∧d.aq.length+d.stores.length+d.aB.length+d.aj.length≤10000∧aQ wx G 32 d.cells)
   case first=>
    as_aux_lemma=>
     cases UA with
     |false=>
      go_wp2_with fail
      go_meet
      exact ⟨c,HX.o,HC.o.ext HX.o,Z8.o.1,Z8.o.2,HG.o⟩
     |true=>
      have KO:Hid (G<W2.heap.size):=HG.o.lt;go_wp2_with fail
      refine (L8 W2 a0 c0 l (HL.o.ext HX.o)).mono ?_;rintro e w5 ⟨d,rfl,hd,hld,hsm,hbl,x5⟩;have HD:=ae hd;have HLD:=ae hld;have kg:=ae hsm;have iG:=ae hbl;have vp:=ae x5
      have ym:=ae (HG.o.ext x5);clear hd hld hsm hbl x5;rw [show d.cells= [i64 d.hours,.slice d.ra d.aA.length d.rc,.slice d.ba d.aj.length d.bc,.slice d.la d.lines.length d.lc,.slice d.ua d.aq.length d.uc,.slice d.sa d.stores.length d.sc,.slice d.ta d.aB.length d.tc,.slice d.oa d.outs.length d.oc]from rfl];go_wp2_with (refine bp rfl 32 _ _ rfl G [i64 c.hours,.slice c.ra c.aA.length c.rc,.slice c.ba c.aj.length c.bc,.slice c.la c.lines.length c.lc,.slice c.ua c.aq.length c.uc,.slice c.sa c.stores.length c.sc,.slice c.ta c.aB.length c.tc,.slice c.oa c.outs.length c.oc] [i64 d.hours,.slice d.ra d.aA.length d.rc,.slice d.ba d.aj.length d.bc,.slice d.la d.lines.length d.lc,.slice d.ua d.aq.length d.uc,.slice d.sa d.stores.length d.sc,.slice d.ta d.aB.length d.tc,.slice d.oa d.outs.length d.oc] ym.o rfl rfl (by kernel_rfl) rfl rfl ?_;intro w9 uI jC;simp only [Act.put])
      go_meet
      exact ⟨d,jC.ext (HX.o.trans vp.o) HGV.o,HD.o.but jC (iG.o.mono fun b hb=>by have:=KO.o;omega),HLD.o,kg.o,uI⟩
   case rest=>
    obtain ⟨d,hX,hD,hLN,hSM,hA⟩:=hcut;have HX:=ae hX;have HD:=ae hD;have lD:=ae hLN;have kg:=ae hSM;have HA:=ae hA
    clear hX hD hLN hSM hA HG HC Z8 HL;have k0:=ai.at HA.o;have Z9:=ae (BM wc d HD.o lD.o kg.o);have MG:=ae (fun U (x:Ext wc U)=>tq U d (HD.o.ext x) lD.o);have PX:=ae (fun U (x:Ext wc U)=>zK U d (HD.o.ext x) kg.o);clear HD lD kg;generalize dW d=ce at*;generalize mf d=ac at*;go_wp2_with fail
    refine Z9.o.mono ?_;rintro e w1 ⟨x1,⟨hne,rfl⟩|⟨rfl,ga,gc,rfl,hr⟩⟩
    ·have eE:=ae x1
     clear Z9 PX k0 x1;have k0:=ai.at (HA.o.ext eE.o);go_wp2_with fail
     refine (MG.o w1 eE.o).mono ?_;rintro e w2 ⟨ek,ei,ef,rfl,x2⟩;go_upto_region 7 with fail
     generalize hW2:World.alloc w2 _=w3;obtain ⟨B2,-,x3,-⟩:=bX hW2;have kX:=ae (HX.o.trans (eE.o.trans (x2.trans x3)));clear hW2 x2 x3 MG k0;go_wp2_with fail
     refine (ub w3).mono ?_;rintro e w4 ⟨rfl,x4⟩;have qI:=ae (kX.o.trans x4);clear x4;go_wp2_with fail
     all_goals (go_ret;exact ⟨rfl,qI.o⟩)
    ·have eE:=ae x1;have UB:=ae hr
     clear Z9 k0 x1 hr;have k0:=ai.at (HA.o.ext eE.o);go_wp2_with fail
     refine (MG.o w1 eE.o).mono ?_;rintro e w2 ⟨ek,ei,ef,rfl,x2⟩;go_upto_region 7 with fail
     generalize hW2:World.alloc w2 _=w3;obtain ⟨B2,-,x3,-⟩:=bX hW2;have kX:=ae (x2.trans x3);clear hW2 x2 x3 MG k0;go_wp2_with fail
     refine (ub w3).mono ?_;rintro e w4 ⟨rfl,x4⟩;replace kX:=ae (kX.o.trans x4);clear x4;have k0:=ai.at (HA.o.ext (eE.o.trans kX.o));go_wp2_with fail
     refine (PX.o w4 (eE.o.trans kX.o)).mono ?_;rintro e w5 ⟨x5,gb,gd,rfl,hr⟩;replace UB:=ae ((UB.o.ext kX.o).ext x5);have HRB:=ae hr
     replace HX:=ae (((HX.o.trans eE.o).trans kX.o).trans x5);clear PX eE kX HA x5 hr k0;have OO:=UB.o.le;have hca:=UB.o.cap
     have Wu:Hid ((ac.length:Int)≤9223372036854775807):=by
      rw [bC]at OO;show _≤_;omega
     clear OO hca;go_wp2_with fail
     go_loopw [12] (fun iv wr=> ∃i:Nat,i≤ac.length∧Ext w5 wr∧iv= .int .i64 (i:Int)) (fun iv _=>ac.length-(intOf iv).toNat)
     case atStart=>exact ⟨0,by omega,Ext.refl _,rfl⟩
     case round=>
      obtain ⟨i,hi,hx,rfl⟩:=hrel;have Og:=ae hx;clear hx;by_cases hlt:(i:Int)<(ac.length:Int)
      ·have HI:=ae hlt
       obtain ⟨x,hx⟩: ∃x,x=ac[i]'(by omega):=⟨_,rfl⟩;obtain ⟨b1,o1,hg1,q1⟩:=(UB.o.ext Og.o).cell i (by rw [bC];omega);obtain ⟨b2,o2,hg2,q2⟩:=(HRB.o.ext Og.o).cell i (by rw [bC];omega);subst hg1 hg2;have Rp:(h_ ac)[i]'(by rw [bC];omega)= [i64 x.1,i64 x.2]:=by rw [hx];exact List.getElem_map ..
       rw [Rp]at q1 q2;have e1:=q1 0 (by simp);have e2:=q1 1 (by simp);have e3:=q2 0 (by simp);have e4:=q2 1 (by simp)
       simp only [List.getElem_cons_zero,List.getElem_cons_succ,Nat.add_zero]at e1 e2 e3 e4
       have IX:Hid (Value.int .i64 (wrap64 ((i:Int)+1))= .int .i64 ((i+1:Nat):Int)):=by
        have:=Wu.o;show _=_;congr 1;unfold wrap64;omega
       have IV:Hid (Ext wr wr.drew):=(Ext.refl wr).drew;clear q1 q2 Rp hx;go_wp2_with fail
       refine wG (fun w=>w.cell? ⟨b1,o1+i*2,none⟩=some (i64 x.1)∧w.cell? ⟨b1,o1+i*2+1,none⟩=some (i64 x.2)∧w.cell? ⟨b2,o2+i*2,none⟩=some (i64 x.1)∧w.cell? ⟨b2,o2+i*2+1,none⟩=some (i64 x.2)) ⟨ak IV.o e1,ak IV.o e2,ak IV.o e3,ak IV.o e4⟩ fun s=> ?_;generalize wr.drew=Y at*;refine wV 0 s ?_;refine wV 1 s ?_;refine wV 2 s ?_;refine wV 3 s ?_;refine wV 4 s ?_;refine wV 5 s ?_;refine wV 6 s ?_;refine wV 7 s ?_;refine wV 8 s ?_;refine wD ?_;go_wp2_with fail
       exact ⟨⟨i+1,by have:=HI.o;omega,Og.o.trans IV.o,IX.o⟩,by rw [IX.o];have:=HI.o;simp only [intOf];omega⟩
      ·go_wp2_with fail
       go_ret;exact ⟨rfl,HX.o.trans Og.o⟩
open Go.ChangeShapes Go.WideShapes Go.ChangeAt
theorem Tryz.laidOut:laidOutB Tryz.prog=true:=by kernel_rfl
def FV (k:IntKind) (w:World) (a:Option Addr) (len cap:Nat) (zs:List Int):Prop:=
 (a=none∧len=0∧cap=0∧zs= [])∨
 ∃x,a=some x∧len≤cap∧cap≤maxLen∧zs.length=cap∧(∀i,i<zs.length→w.cell? (x.add i)=some (.int k (zs.getD i 0)))∧ ∀n∈zs,(Lit.int k n).wf=true
theorem wf_i64 {n:Int} (h:(Lit.int .i64 n).wf=true): -9223372036854775808≤n∧n<9223372036854775808:=by
 simp [Lit.wf,IntKind.min,IntKind.max,IntKind.signed,IntKind.bits]at h;omega
theorem FV.UC {w:World} {a:Option Addr} {len cap:Nat} {zs:List Int} (h:FV .i64 w a len cap zs):(zs.take len).length=len∧aI w a cap (zs.take len):=by
 rcases h with⟨rfl,rfl,rfl,rfl⟩|⟨x,rfl,h1,h2,h3,h4,h5⟩
 ·exact ⟨rfl,⟨Nat.le_refl _,by omega,fun i hi=>absurd hi (Nat.not_lt_zero _),fun i hi=>absurd hi (Nat.not_lt_zero _)⟩⟩
 ·have hl:(zs.take len).length=len:=by rw [List.length_take];omega
  refine ⟨hl,⟨by omega,by unfold maxLen at h2;omega,fun i hi=> ?_,fun i hi=> ?_⟩⟩
  ·have hc:=h4 i (by omega)
   obtain ⟨b,off,spot⟩:=x;have hspot:spot=none:=by simpa [Addr.add]using World.cell?_spot (h4 0 (by omega))
   subst hspot;refine ⟨b,off,rfl,?_⟩;rw [show(Addr.add ⟨b,off,none⟩ i)=⟨b,off+i,none⟩from by unfold Addr.add;split<;>simp_all]at hc;rw [hc,List.getElem_take];have hi':i<zs.length:=by omega
   simp [hi']
  ·rw [List.getElem_take]
   exact wf_i64 (h5 _ (List.getElem_mem _))
end Go.Proofs.YtkpngkdgphojlaaGreat
