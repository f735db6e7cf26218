/- Texts of the proof. -/
import Derived.Test.YtkpngkdgphojlaaGreatCc10
set_option linter.all false
namespace Go.Proofs.YtkpngkdgphojlaaGreat
open Go.RowKit
set_option maxHeartbeats 4000000 in
set_option maxRecDepth 100000 in
theorem qy (w0:World) (c:aq) (hc:aT w0 c) (hl:nN c):
 Calls Tryz.prog 21 #[.agg (C8 c)] w0 fun e w'=> ∃k i f,e= .returned (.tuple #[.agg #[i64 k,i64 i,i64 f],i64 (bT c)])∧Ext w0 w':=by
 try unfold C8
 have dB:=ae hc;have kW:=ae hl
 obtain ⟨ce,hce⟩: ∃ce,ce=bT c:=⟨_,rfl⟩;rw [←hce];have Br:=ae hce;clear hce;clear hc hl;go_enter Tryz.func21,Tryz.ntmps21
 go_upto_region 1 with fail
 obtain ⟨W0,hW,x0,Z0,A0,A1⟩:=fP w0 32 c.cells 52 [i64 0,i64 0,i64 0];rw [show(w0.alloc (.cells (C8 c) 32)).alloc (.cells #[i64 0,i64 0,i64 0] 52)=W0 from hW.symm];clear hW;go_upto_region 2 with fail
 obtain ⟨W1,hW,x1,Z1,A2⟩:=aB W0 101 [i64 0,i64 0,i64 0,i64 0];rw [show W0.alloc (.cells #[i64 0,i64 0,i64 0,i64 0] 101)=W1 from hW.symm];clear hW;have z0:=Z0.out;obtain ⟨B,hB⟩: ∃B,B=w0.heap.size:=⟨_,rfl⟩;obtain ⟨R,hR⟩: ∃R,R=w0.heap.size+1:=⟨_,rfl⟩;obtain ⟨K,hK⟩: ∃K,K=W0.heap.size:=⟨_,rfl⟩;rw [←hR]at A1⊢;rw [←hB]at A0⊢;rw [←hK]at A2⊢;have bL:B≠K:=by omega
 have CI:R≠K:=by omega
 have bB:Hid (w0.heap.size≤K):=by show _≤_;omega
 have HF:Hid (FE W1 K 0):=⟨0,0,0,A2⟩;have HB:=ae (A0.ext x1);have HR:=ae (A1.ext x1)
 have bw:=ae (x0.trans x1);have bV:Hid (ak K W1 W1):=ak.refl _ _;have IK:Hid (w0.heap.size≤R):=by show _≤_;omega
 obtain ⟨ef,he⟩: ∃e',e'=gz c 0:=⟨_,rfl⟩;have UR:=ae he;clear he A0 A1 A2 x0 x1 Z0 Z1 z0 hB hR hK;obtain ⟨k0,k1,k2,k3,k4,k5,k6,k7⟩:=aq.at HB.out;go_wp2_with fail
 refine (Dw w0 W1 K c 0 bB.out bw.out dB.out kW.out HF.out).mono ?_;rintro e W2 ⟨rfl,hf,hx⟩;rw [←UR.out]at hf;have HF:=ae hf;have HB:=ae (HB.out.but hx bL);have HR:=ae (HR.out.but hx CI)
 have bV:=ae (bV.out.trans hx);have bw:=ae (hx.ext bw.out bB.out)
 clear hf hx k0 k1 k2 k3 k4 k5 k6 k7;obtain ⟨e1,he⟩: ∃e',e'=cM (bW c.au (ql c)) ef c.au.length:=⟨_,rfl⟩;have kt:=ae he;clear he
 go_upto_block 0 with fail
 go_cut [] (fun wx=>FE wx K e1∧ak K W2 wx∧aG wx B 32 c.cells∧aG wx R 52 [i64 0,i64 0,i64 0])
 case first=>
  as_aux_lemma=>
   go_wp2_with fail
   go_loopw [5] (fun ii wx=> ∃i:Nat,i≤c.au.length∧FE wx K (cM (bW c.au (ql c)) ef i)∧ak K W2 wx∧aG wx B 32 c.cells∧aG wx R 52 [i64 0,i64 0,i64 0]∧ii= .int .i64 i) (fun ii _=>c.au.length-(intOf ii).toNat)
   case atStart=>exact ⟨0,Nat.zero_le _,HF.out,ak.refl _ _,HB.out,HR.out,rfl⟩
   case round=>
    obtain ⟨i,hi,hF,hX,hB,hR,rfl⟩:=hrel;have hne:=fun q=>fU (F:=bW c.au (ql c)) (fun i e h=>cO (o_ c) i e h) (e:=ef) (n:=c.au.length) hi q;have k3:=hF.cell;have hlen:=kW.out.au;by_cases hlt:i<c.au.length
    ·have HS:=ae (dE (bW c.au (ql c)) ef i)
     rw [gJ hlt]at HS;generalize cM (bW c.au (ql c)) ef i=e0 at*;have HF:=ae hF;have HX:=ae hX;have HB:=ae hB;have HR:=ae hR;have tq:=ae hne
     have bw:=ae (hX.ext bw.out bB.out);clear hF hX hB hR hne;by_cases h0:e0=0
     ·have t1:(e0==0)=true:=by simpa using h0
      clear h0;obtain ⟨bb,bo,ha,b0,b1,b2⟩:=(dB.out.au.ext bw.out).au i hlt;have Ot:=dB.out.cX c.au[i] (List.getElem_mem hlt);have qa:Hid (∃h:i<(c.au.map cN.name).length,(c.au.map cN.name)[i]=c.au[i].name∧(c.au.map cN.name).take i=(c.au.take i).map cN.name):=⟨by simpa using hlt,by simp,by rw [List.map_take]⟩;have sZ:Hid ((c.au.map cN.name).length≤1000000):=by(show _≤_;rw [List.length_map];exact hlen)
      obtain ⟨prev,iG⟩: ∃prev,prev=(c.au.take i).map cN.name:=⟨_,rfl⟩;have HS:Hid (cM (bW c.au (ql c)) ef (i+1)=nZ c c.au[i] ((c.au.take i).map cN.name) e0):=HS.out;rw [←iG]at HS qa;obtain ⟨x,eU⟩: ∃x,x=c.au[i]:=⟨_,rfl⟩;rw [←eU]at b0 b1 b2 Ot HS qa;have j3:=ae ha;have nL:=ae Ot;have pT:=ae eU
      have fM:(0:Int)≤(i:Int):=by omega
      have fH:(i:Int)<(c.au.length:Int):=by omega
      clear ha Ot iG eU;obtain ⟨k0,k1,k2,px,k4,k5,k6,k7⟩:=aq.at HB.out;have HC:=ae (kG w0 wr K c e0 1 i prev _ x.name (nT c) (by decide) qa.out sZ.out bB.out bw.out dB.out nL.out.1 HF.out);go_wp2_with fail
      refine HC.out.mono ?_;rintro e w2 ⟨rfl,hf,hx⟩;have EL:=ae hf;have dC:=ae (HX.out.trans hx);have qf:=ae (HB.out.but hx bL);have o0:=ae (HR.out.but hx CI)
      have JJ:=ae (hx.ext bw.out bB.out);clear b0 b1 b2 hf hx k0 k1 k2 k3 px k4 k5 k6 k7 HC;obtain ⟨bb',bo',ha,b0,b1,b2⟩:=(dB.out.au.ext JJ.out).au i hlt;rw [j3.out]at ha;cases ha
      rw [←show x=c.au[i]from pT.out]at b0 b1 b2;clear b0;obtain ⟨k0,k1,k2,px,k4,k5,k6,k7⟩:=aq.at qf.out
      have EG:bb≠K:=by
       obtain ⟨b3,o3,h3,q0,-⟩:=dB.out.au.au i hlt;rw [j3.out]at h3;cases h3
       have:=cU q0;simp only at this;have:=bB.out;omega
      have HH:=ae (fun U (hU:Ext w0 U) (hF:FE U K (eG e0 x.name prev))=>jC w0 U K c (eG e0 x.name prev) x.da x.dc x.bU 0 1048576 1 i 1 bB.out hU nL.out.2.1 hF);go_wp2_with fail
      refine ay (fun w'=>w'.cell? ⟨B,0,none⟩=some (i64 c.hours)∧w'.cell? ⟨B,1,none⟩=some (.slice c.ra c.az.length c.rc)∧w'.cell? ⟨B,2,none⟩=some (.slice c.ba c.au.length c.bc)∧w'.cell? ⟨B,3,none⟩=some (.slice c.la c.lines.length c.lc)∧w'.cell? ⟨B,4,none⟩=some (.slice c.ua c.aj.length c.uc)∧w'.cell? ⟨B,5,none⟩=some (.slice c.sa c.stores.length c.sc)∧w'.cell? ⟨B,6,none⟩=some (.slice c.ta c.aN.length c.tc)∧w'.cell? ⟨B,7,none⟩=some (.slice c.oa c.outs.length c.oc)∧w'.cell? ⟨bb,bo+i*3+1,none⟩=some (.slice x.da x.bU.length x.dc)) (fun w'=>True) (fun i=>false) (by kernel_rfl) (⟨k0,k1,k2,px,k4,k5,k6,k7,b1⟩) (trivial) (fun ar ah=> ?_);refine av 0 (.pointer (some ⟨K,0,none⟩)) rfl ar ah ?_;simp only [sS];refine av 1 (.agg #[i64 c.hours,.slice c.ra c.az.length c.rc,.slice c.ba c.au.length c.bc,.slice c.la c.lines.length c.lc,.slice c.ua c.aj.length c.uc,.slice c.sa c.stores.length c.sc,.slice c.ta c.aN.length c.tc,.slice c.oa c.outs.length c.oc]) rfl ar ah ?_;simp only [sS];refine av 2 (.pointer (some ⟨B,2,none⟩)) rfl ar ah ?_;simp only [sS];refine av 3 (.slice c.ba c.au.length c.bc) rfl ar ah ?_;simp only [sS];refine av 4 (.int .i64 (i:Int)) rfl ar ah ?_;simp only [sS];refine av 5 (.pointer (some ⟨bb,bo+i*3,none⟩)) rfl ar ah ?_ (by rintro w ⟨e0,e1,e2,e3,e4,e5,e6,e7,e8⟩;have ha:=j3.out;go_simp);simp only [sS];refine av 6 (.pointer (some ⟨bb,bo+i*3+1,none⟩)) rfl ar ah ?_;simp only [sS];refine av 7 (.slice x.da x.bU.length x.dc) rfl ar ah ?_;simp only [sS];refine av 8 (.int .i64 (i:Int)) rfl ar ah ?_;simp only [sS];refine cG 9 rfl (fun Kc hK=> ?_);go_simp;refine (HH.out w2.drew (JJ.out.trans (Ext.refl w2).drew) (EL.out.ext (Ext.refl w2).drew)).mono ?_;rintro e W5 ⟨rfl,Fu,dA⟩;refine hK.out _ _ (⟨aR (ai (Ext.refl w2).drew k0) dA bL,aR (ai (Ext.refl w2).drew k1) dA bL,aR (ai (Ext.refl w2).drew k2) dA bL,aR (ai (Ext.refl w2).drew px) dA bL,aR (ai (Ext.refl w2).drew k4) dA bL,aR (ai (Ext.refl w2).drew k5) dA bL,aR (ai (Ext.refl w2).drew k6) dA bL,aR (ai (Ext.refl w2).drew k7) dA bL,aR (ai (Ext.refl w2).drew b1) dA EG⟩) (trivial) (fun ar ah=> ?_);clear hK Kc;try simp only [sS]
      refine ax (by kernel_rfl) ?_ _;clear ar ah;clear k0 k1 k2 px k4 k5 k6 k7 b1 b2 EL HH;have UT:=ae Fu;have jY:=ae (dC.out.trans (((Ext.refl w2).drew.but K).trans dA));have MO:Hid (aG W5 B 32 c.cells):=(qf.out.ext (Ext.refl w2).drew).but dA bL
      have qR:Hid (aG W5 R 52 [i64 0,i64 0,i64 0]):=(o0.out.ext (Ext.refl w2).drew).but dA CI;have UU:=ae (dA.ext (JJ.out.trans (Ext.refl w2).drew) bB.out);clear Fu dA dC qf o0 JJ;obtain ⟨-,-,k2,-,-,-,-,-⟩:=aq.at MO.out;obtain ⟨bb',bo',ha,-,-,b2⟩:=(dB.out.au.ext UU.out).au i hlt;rw [j3.out]at ha;cases ha
      rw [←show x=c.au[i]from pT.out]at b2;rw [j3.out]at k2;go_wp2_with fail
      refine (gh W5 x.gF 0 1048576 nL.out.2.2).mono ?_;rintro e w1 ⟨rfl,rfl⟩;go_wp2_with fail
      refine (aU _ K _ _ _ _ _ _ (UT.out.alloc _)).mono ?_;rintro e W6 ⟨rfl,hf,hx⟩;have kO:=ae (And.intro hf (And.intro ((jY.out.alloc' _).trans hx) (And.intro ((MO.out.alloc' _).but hx bL) ((qR.out.alloc' _).but hx CI))));clear hf hx k2 b2;go_wp2_with fail
      exact ⟨⟨i+1,by omega,by rw [HS.out];exact kO.out.1,kO.out.2.1,kO.out.2.2.1,kO.out.2.2.2,by go_num⟩,by simp only [intOf];omega⟩
     ·have t1:(e0==0)=false:=by simpa using h0
      have HE:=ae (tq.out h0);clear h0;obtain ⟨k0,k1,k2,px,k4,k5,k6,k7⟩:=aq.at HB.out;go_wp2_with fail
      go_meet
      exact ⟨by rw [kt.out,←HE.out];exact HF.out,HX.out,HB.out,HR.out⟩
    ·obtain rfl:i=c.au.length:=by omega
     rw [←kt.out]at hF;have HF:=ae hF;have HX:=ae hX;have HB:=ae hB;have HR:=ae hR
     clear hne hF hX hB hR;obtain ⟨k0,k1,k2,px,k4,k5,k6,k7⟩:=aq.at HB.out;go_wp2_with fail
     go_meet
     exact ⟨HF.out,HX.out,HB.out,HR.out⟩
 case rest=>
  obtain ⟨hF,hX,hB,hR⟩:=hcut;generalize wc=V1 at*;have HF:=ae hF;have HB:=ae hB;have HR:=ae hR
  have bV:=ae (bV.out.trans hX);have bw:=ae (hX.ext bw.out bB.out)
  clear hF hX hB hR;obtain ⟨e2,he⟩: ∃e',e'=cM (bW c.lines (lS c)) e1 c.lines.length:=⟨_,rfl⟩;have j4:=ae he;clear he
  go_upto_block 2 with fail
  go_cut [] (fun wx=>FE wx K e2∧ak K V1 wx∧aG wx B 32 c.cells∧aG wx R 52 [i64 0,i64 0,i64 0])
  case first=>
   as_aux_lemma=>
    go_wp2_with fail
    go_loopw [6] (fun ii wx=> ∃i:Nat,i≤c.lines.length∧FE wx K (cM (bW c.lines (lS c)) e1 i)∧ak K V1 wx∧aG wx B 32 c.cells∧aG wx R 52 [i64 0,i64 0,i64 0]∧ii= .int .i64 i) (fun ii _=>c.lines.length-(intOf ii).toNat)
    case atStart=>exact ⟨0,Nat.zero_le _,HF.out,ak.refl _ _,HB.out,HR.out,rfl⟩
    case round=>
     obtain ⟨i,hi,hF,hX,hB,hR,rfl⟩:=hrel;have hne:=fun q=>fU (F:=bW c.lines (lS c)) (fun i e h=>cO (qm c) i e h) (e:=e1) (n:=c.lines.length) hi q;have k3:=hF.cell;have hlen:=kW.out.lines;by_cases hlt:i<c.lines.length
     ·have HS:=ae (dE (bW c.lines (lS c)) e1 i)
      rw [gJ hlt]at HS;generalize cM (bW c.lines (lS c)) e1 i=e0 at*;have HF:=ae hF;have HX:=ae hX;have HB:=ae hB;have HR:=ae hR;have tq:=ae hne
      have bw:=ae (hX.ext bw.out bB.out);clear hF hX hB hR hne;by_cases h0:e0=0
      ·have t1:(e0==0)=true:=by simpa using h0
       clear h0;obtain ⟨k0,k1,k2,px,k4,k5,k6,k7⟩:=aq.at HB.out;have HC:=ae (Fx w0 wr K c e0 i hlt bB.out bw.out dB.out hlen HF.out);go_wp2_with fail
       refine HC.out.mono ?_;rintro e w2 ⟨rfl,hf,hx⟩;have kO:=ae (And.intro hf (And.intro (HX.out.trans hx) (And.intro (HB.out.but hx bL) (HR.out.but hx CI))));clear hf hx k0 k1 k2 k3 px k4 k5 k6 k7;go_wp2_with fail
       exact ⟨⟨i+1,by omega,by rw [HS.out];exact kO.out.1,kO.out.2.1,kO.out.2.2.1,kO.out.2.2.2,by go_num⟩,by simp only [intOf];omega⟩
      ·have t1:(e0==0)=false:=by simpa using h0
       have HE:=ae (tq.out h0);clear h0;obtain ⟨k0,k1,k2,px,k4,k5,k6,k7⟩:=aq.at HB.out;go_wp2_with fail
       go_meet
       exact ⟨by rw [j4.out,←HE.out];exact HF.out,HX.out,HB.out,HR.out⟩
     ·obtain rfl:i=c.lines.length:=by omega
      rw [←j4.out]at hF;have HF:=ae hF;have HX:=ae hX;have HB:=ae hB;have HR:=ae hR
      clear hne hF hX hB hR;obtain ⟨k0,k1,k2,px,k4,k5,k6,k7⟩:=aq.at HB.out;go_wp2_with fail
      go_meet
      exact ⟨HF.out,HX.out,HB.out,HR.out⟩
  case rest=>
   obtain ⟨hF,hX,hB,hR⟩:=hcut;generalize wc=V2 at*;have HF:=ae hF;have HB:=ae hB;have HR:=ae hR
   have bV:=ae (bV.out.trans hX);have bw:=ae (hX.ext bw.out bB.out)
   clear hF hX hB hR;obtain ⟨e3,he⟩: ∃e',e'=cM (bW c.aj (lT c)) e2 c.aj.length:=⟨_,rfl⟩;have nc:=ae he;clear he
   go_upto_block 4 with fail
   go_cut [] (fun wx=>FE wx K e3∧ak K V2 wx∧aG wx B 32 c.cells∧aG wx R 52 [i64 0,i64 0,i64 0])
   case first=>
    as_aux_lemma=>
     go_wp2_with fail
     go_loopw [7] (fun ii wx=> ∃i:Nat,i≤c.aj.length∧FE wx K (cM (bW c.aj (lT c)) e2 i)∧ak K V2 wx∧aG wx B 32 c.cells∧aG wx R 52 [i64 0,i64 0,i64 0]∧ii= .int .i64 i) (fun ii _=>c.aj.length-(intOf ii).toNat)
     case atStart=>exact ⟨0,Nat.zero_le _,HF.out,ak.refl _ _,HB.out,HR.out,rfl⟩
     case round=>
      obtain ⟨i,hi,hF,hX,hB,hR,rfl⟩:=hrel;have hne:=fun q=>fU (F:=bW c.aj (lT c)) (fun i e h=>cO (nt c) i e h) (e:=e2) (n:=c.aj.length) hi q;have k3:=hF.cell;have hlen:=kW.out.aj;by_cases hlt:i<c.aj.length
      ·have HS:=ae (dE (bW c.aj (lT c)) e2 i)
       rw [gJ hlt]at HS;generalize cM (bW c.aj (lT c)) e2 i=e0 at*;have HF:=ae hF;have HX:=ae hX;have HB:=ae hB;have HR:=ae hR;have tq:=ae hne
       have bw:=ae (hX.ext bw.out bB.out);clear hF hX hB hR hne;by_cases h0:e0=0
       ·have t1:(e0==0)=true:=by simpa using h0
        clear h0;obtain ⟨k0,k1,k2,px,k4,k5,k6,k7⟩:=aq.at HB.out;have HC:=ae (FZ w0 wr K c e0 i hlt bB.out bw.out dB.out hlen HF.out);go_wp2_with fail
        refine HC.out.mono ?_;rintro e w2 ⟨rfl,hf,hx⟩;have kO:=ae (And.intro hf (And.intro (HX.out.trans hx) (And.intro (HB.out.but hx bL) (HR.out.but hx CI))));clear hf hx k0 k1 k2 k3 px k4 k5 k6 k7;go_wp2_with fail
        exact ⟨⟨i+1,by omega,by rw [HS.out];exact kO.out.1,kO.out.2.1,kO.out.2.2.1,kO.out.2.2.2,by go_num⟩,by simp only [intOf];omega⟩
       ·have t1:(e0==0)=false:=by simpa using h0
        have HE:=ae (tq.out h0);clear h0;obtain ⟨k0,k1,k2,px,k4,k5,k6,k7⟩:=aq.at HB.out;go_wp2_with fail
        go_meet
        exact ⟨by rw [nc.out,←HE.out];exact HF.out,HX.out,HB.out,HR.out⟩
      ·obtain rfl:i=c.aj.length:=by omega
       rw [←nc.out]at hF;have HF:=ae hF;have HX:=ae hX;have HB:=ae hB;have HR:=ae hR
       clear hne hF hX hB hR;obtain ⟨k0,k1,k2,px,k4,k5,k6,k7⟩:=aq.at HB.out;go_wp2_with fail
       go_meet
       exact ⟨HF.out,HX.out,HB.out,HR.out⟩
   case rest=>
    obtain ⟨hF,hX,hB,hR⟩:=hcut;generalize wc=V3 at*;have HF:=ae hF;have HB:=ae hB;have HR:=ae hR
    have bV:=ae (bV.out.trans hX);have bw:=ae (hX.ext bw.out bB.out)
    clear hF hX hB hR;obtain ⟨e4,he⟩: ∃e',e'=cM (bW c.stores (jh c)) e3 c.stores.length:=⟨_,rfl⟩;have ng:=ae he;clear he
    go_upto_block 6 with fail
    go_cut [] (fun wx=>FE wx K e4∧ak K V3 wx∧aG wx B 32 c.cells∧aG wx R 52 [i64 0,i64 0,i64 0])
    case first=>
     as_aux_lemma=>
      go_wp2_with fail
      go_loopw [8] (fun ii wx=> ∃i:Nat,i≤c.stores.length∧FE wx K (cM (bW c.stores (jh c)) e3 i)∧ak K V3 wx∧aG wx B 32 c.cells∧aG wx R 52 [i64 0,i64 0,i64 0]∧ii= .int .i64 i) (fun ii _=>c.stores.length-(intOf ii).toNat)
      case atStart=>exact ⟨0,Nat.zero_le _,HF.out,ak.refl _ _,HB.out,HR.out,rfl⟩
      case round=>
       obtain ⟨i,hi,hF,hX,hB,hR,rfl⟩:=hrel;have hne:=fun q=>fU (F:=bW c.stores (jh c)) (fun i e h=>cO (ly c) i e h) (e:=e3) (n:=c.stores.length) hi q;have k3:=hF.cell;have hlen:=kW.out.stores;by_cases hlt:i<c.stores.length
       ·have HS:=ae (dE (bW c.stores (jh c)) e3 i)
        rw [gJ hlt]at HS;generalize cM (bW c.stores (jh c)) e3 i=e0 at*;have HF:=ae hF;have HX:=ae hX;have HB:=ae hB;have HR:=ae hR;have tq:=ae hne
        have bw:=ae (hX.ext bw.out bB.out);clear hF hX hB hR hne;by_cases h0:e0=0
        ·have t1:(e0==0)=true:=by simpa using h0
         clear h0;obtain ⟨k0,k1,k2,px,k4,k5,k6,k7⟩:=aq.at HB.out;have HC:=ae (Dk w0 wr K c e0 i hlt bB.out bw.out dB.out hlen HF.out);go_wp2_with fail
         refine HC.out.mono ?_;rintro e w2 ⟨rfl,hf,hx⟩;have kO:=ae (And.intro hf (And.intro (HX.out.trans hx) (And.intro (HB.out.but hx bL) (HR.out.but hx CI))));clear hf hx k0 k1 k2 k3 px k4 k5 k6 k7;go_wp2_with fail
         exact ⟨⟨i+1,by omega,by rw [HS.out];exact kO.out.1,kO.out.2.1,kO.out.2.2.1,kO.out.2.2.2,by go_num⟩,by simp only [intOf];omega⟩
        ·have t1:(e0==0)=false:=by simpa using h0
         have HE:=ae (tq.out h0);clear h0;obtain ⟨k0,k1,k2,px,k4,k5,k6,k7⟩:=aq.at HB.out;go_wp2_with fail
         go_meet
         exact ⟨by rw [ng.out,←HE.out];exact HF.out,HX.out,HB.out,HR.out⟩
       ·obtain rfl:i=c.stores.length:=by omega
        rw [←ng.out]at hF;have HF:=ae hF;have HX:=ae hX;have HB:=ae hB;have HR:=ae hR
        clear hne hF hX hB hR;obtain ⟨k0,k1,k2,px,k4,k5,k6,k7⟩:=aq.at HB.out;go_wp2_with fail
        go_meet
        exact ⟨HF.out,HX.out,HB.out,HR.out⟩
    case rest=>
     obtain ⟨hF,hX,hB,hR⟩:=hcut;generalize wc=V4 at*;have HF:=ae hF;have HB:=ae hB;have HR:=ae hR
     have bV:=ae (bV.out.trans hX);have bw:=ae (hX.ext bw.out bB.out)
     clear hF hX hB hR;obtain ⟨e5,he⟩: ∃e',e'=cM (bW c.aN (rQ c)) e4 c.aN.length:=⟨_,rfl⟩;have qc:=ae he;clear he
     go_upto_block 8 with fail
     go_cut [] (fun wx=>FE wx K e5∧ak K V4 wx∧aG wx B 32 c.cells∧aG wx R 52 [i64 0,i64 0,i64 0])
     case first=>
      as_aux_lemma=>
       go_wp2_with fail
       go_loopw [9] (fun ii wx=> ∃i:Nat,i≤c.aN.length∧FE wx K (cM (bW c.aN (rQ c)) e4 i)∧ak K V4 wx∧aG wx B 32 c.cells∧aG wx R 52 [i64 0,i64 0,i64 0]∧ii= .int .i64 i) (fun ii _=>c.aN.length-(intOf ii).toNat)
       case atStart=>exact ⟨0,Nat.zero_le _,HF.out,ak.refl _ _,HB.out,HR.out,rfl⟩
       case round=>
        obtain ⟨i,hi,hF,hX,hB,hR,rfl⟩:=hrel;have hne:=fun q=>fU (F:=bW c.aN (rQ c)) (fun i e h=>cO (pd c) i e h) (e:=e4) (n:=c.aN.length) hi q;have k3:=hF.cell;have hlen:=kW.out.aN;by_cases hlt:i<c.aN.length
        ·have HS:=ae (dE (bW c.aN (rQ c)) e4 i)
         rw [gJ hlt]at HS;generalize cM (bW c.aN (rQ c)) e4 i=e0 at*;have HF:=ae hF;have HX:=ae hX;have HB:=ae hB;have HR:=ae hR;have tq:=ae hne
         have bw:=ae (hX.ext bw.out bB.out);clear hF hX hB hR hne;by_cases h0:e0=0
         ·have t1:(e0==0)=true:=by simpa using h0
          clear h0;obtain ⟨k0,k1,k2,px,k4,k5,k6,k7⟩:=aq.at HB.out;have HC:=ae (I_ w0 wr K c e0 i hlt bB.out bw.out dB.out hlen HF.out);go_wp2_with fail
          refine HC.out.mono ?_;rintro e w2 ⟨rfl,hf,hx⟩;have kO:=ae (And.intro hf (And.intro (HX.out.trans hx) (And.intro (HB.out.but hx bL) (HR.out.but hx CI))));clear hf hx k0 k1 k2 k3 px k4 k5 k6 k7;go_wp2_with fail
          exact ⟨⟨i+1,by omega,by rw [HS.out];exact kO.out.1,kO.out.2.1,kO.out.2.2.1,kO.out.2.2.2,by go_num⟩,by simp only [intOf];omega⟩
         ·have t1:(e0==0)=false:=by simpa using h0
          have HE:=ae (tq.out h0);clear h0;obtain ⟨k0,k1,k2,px,k4,k5,k6,k7⟩:=aq.at HB.out;go_wp2_with fail
          go_meet
          exact ⟨by rw [qc.out,←HE.out];exact HF.out,HX.out,HB.out,HR.out⟩
        ·obtain rfl:i=c.aN.length:=by omega
         rw [←qc.out]at hF;have HF:=ae hF;have HX:=ae hX;have HB:=ae hB;have HR:=ae hR
         clear hne hF hX hB hR;obtain ⟨k0,k1,k2,px,k4,k5,k6,k7⟩:=aq.at HB.out;go_wp2_with fail
         go_meet
         exact ⟨HF.out,HX.out,HB.out,HR.out⟩
     case rest=>
      obtain ⟨hF,hX,hB,hR⟩:=hcut;generalize wc=V5 at*;have HF:=ae hF;have HB:=ae hB;have HR:=ae hR
      have bV:=ae (bV.out.trans hX);have bw:=ae (hX.ext bw.out bB.out)
      clear hF hX hB hR;obtain ⟨e6,he⟩: ∃e',e'=cM (bW c.outs (uK c)) e5 c.outs.length:=⟨_,rfl⟩;have vD:=ae he;clear he
      go_upto_block 10 with fail
      go_cut [] (fun wx=>FE wx K e6∧ak K V5 wx∧aG wx B 32 c.cells∧aG wx R 52 [i64 0,i64 0,i64 0])
      case first=>
       as_aux_lemma=>
        go_wp2_with fail
        go_loopw [10] (fun ii wx=> ∃i:Nat,i≤c.outs.length∧FE wx K (cM (bW c.outs (uK c)) e5 i)∧ak K V5 wx∧aG wx B 32 c.cells∧aG wx R 52 [i64 0,i64 0,i64 0]∧ii= .int .i64 i) (fun ii _=>c.outs.length-(intOf ii).toNat)
        case atStart=>exact ⟨0,Nat.zero_le _,HF.out,ak.refl _ _,HB.out,HR.out,rfl⟩
        case round=>
         obtain ⟨i,hi,hF,hX,hB,hR,rfl⟩:=hrel;have hne:=fun q=>fU (F:=bW c.outs (uK c)) (fun i e h=>cO (pg c) i e h) (e:=e5) (n:=c.outs.length) hi q;have k3:=hF.cell;have hlen:=kW.out.outs;by_cases hlt:i<c.outs.length
         ·have HS:=ae (dE (bW c.outs (uK c)) e5 i)
          rw [gJ hlt]at HS;generalize cM (bW c.outs (uK c)) e5 i=e0 at*;have HF:=ae hF;have HX:=ae hX;have HB:=ae hB;have HR:=ae hR;have tq:=ae hne
          have bw:=ae (hX.ext bw.out bB.out);clear hF hX hB hR hne;by_cases h0:e0=0
          ·have t1:(e0==0)=true:=by simpa using h0
           clear h0;obtain ⟨k0,k1,k2,px,k4,k5,k6,k7⟩:=aq.at HB.out;have HC:=ae (AU w0 wr K c e0 i hlt bB.out bw.out dB.out hlen kW.out.moves HF.out);go_wp2_with fail
           refine HC.out.mono ?_;rintro e w2 ⟨rfl,hf,hx⟩;have kO:=ae (And.intro hf (And.intro (HX.out.trans hx) (And.intro (HB.out.but hx bL) (HR.out.but hx CI))));clear hf hx k0 k1 k2 k3 px k4 k5 k6 k7;go_wp2_with fail
           exact ⟨⟨i+1,by omega,by rw [HS.out];exact kO.out.1,kO.out.2.1,kO.out.2.2.1,kO.out.2.2.2,by go_num⟩,by simp only [intOf];omega⟩
          ·have t1:(e0==0)=false:=by simpa using h0
           have HE:=ae (tq.out h0);clear h0;obtain ⟨k0,k1,k2,px,k4,k5,k6,k7⟩:=aq.at HB.out;go_wp2_with fail
           go_meet
           exact ⟨by rw [vD.out,←HE.out];exact HF.out,HX.out,HB.out,HR.out⟩
         ·obtain rfl:i=c.outs.length:=by omega
          rw [←vD.out]at hF;have HF:=ae hF;have HX:=ae hX;have HB:=ae hB;have HR:=ae hR
          clear hne hF hX hB hR;obtain ⟨k0,k1,k2,px,k4,k5,k6,k7⟩:=aq.at HB.out;go_wp2_with fail
          go_meet
          exact ⟨HF.out,HX.out,HB.out,HR.out⟩
      case rest=>
       obtain ⟨hF,hX,hB,hR⟩:=hcut;generalize wc=V6 at*;have HF:=ae hF;have HB:=ae hB;have HR:=ae hR
       have bV:=ae (bV.out.trans hX);have bw:=ae (hX.ext bw.out bB.out)
       clear hF hX hB hR;obtain ⟨e7,he⟩: ∃e',e'=cM (kI c) e6 c.hours.toNat:=⟨_,rfl⟩;have oL:=ae he;clear he;have UX:=bw
       have sT:e6=0→(1≤c.hours∧c.hours≤24)∧ ∀i (hi:i<c.lines.length),(0≤c.lines[i].cd∧c.lines[i].cd<c.au.length)∧(0≤c.lines[i].ie∧c.lines[i].ie<c.au.length):=fun h=>by
        rw [vD.out]at h;have h5:=(fu (fun i e h=>cO (pg c) i e h) h).1;rw [qc.out]at h5;have h4:=(fu (fun i e h=>cO (pd c) i e h) h5).1;rw [ng.out]at h4;have h3:=(fu (fun i e h=>cO (ly c) i e h) h4).1;rw [nc.out]at h3;have h2:=(fu (fun i e h=>cO (nt c) i e h) h3).1;rw [j4.out]at h2;have h1:=rh (c:=c) h2;have h0:=h1.1;rw [kt.out]at h0;have hf:=(fu (fun i e h=>cO (o_ c) i e h) h0).1;rw [UR.out]at hf;exact ⟨yQ hf,h1.2⟩
       have HGD:=ae sT;clear sT
       go_upto_block 12 with fail
       go_cut [] (fun wx=>FE wx K e7∧ak K V6 wx∧aG wx B 32 c.cells∧aG wx R 52 [i64 0,i64 0,i64 0])
       case first=>
        as_aux_lemma=>
         go_wp2_with fail
         go_loopw [11] (fun ii wx=> ∃h:Nat,h≤c.hours.toNat∧FE wx K (cM (kI c) e6 h)∧ak K V6 wx∧aG wx B 32 c.cells∧aG wx R 52 [i64 0,i64 0,i64 0]∧ii= .int .i64 h) (fun ii _=>c.hours.toNat-(intOf ii).toNat)
         case atStart=>exact ⟨0,Nat.zero_le _,HF.out,ak.refl _ _,HB.out,HR.out,rfl⟩
         case round=>
             obtain ⟨h,hh,hF,hX,hB,hR,rfl⟩:=hrel;have hne:=fun q=>fU (F:=kI c) (nw c) (e:=e6) (n:=c.hours.toNat) hh q;have UY:=ae (show h=c.hours.toNat→cM (kI c) e6 h=e7 from fun q=>by rw [q,oL.out]);have hz:=fun q=>(fu (F:=kI c) (nw c) (e:=e6) (n:=h) q).1;have k3:=hF.cell;have HS:=ae (dE (kI c) e6 h);generalize cM (kI c) e6 h=e0 at*;have bw:=ae (hX.ext bw.out bB.out);have sj:=ae hF;have wR:=ae hX;have K4:=ae hB;have Qd:=ae hR;have tq:=ae hne
             clear hF hX hB hR hne;by_cases h0:e0=0
             ·have t1:(e0==0)=true:=by simpa using h0
              obtain ⟨⟨g1,g2⟩,DM⟩:=HGD.out (hz h0);have CA:=ae DM;have S5:=ae h0;clear hz DM h0;by_cases hlt:h<c.hours.toNat
              ·have th:decide ((h:Int)<c.hours)=true:=by simp;omega
               obtain ⟨k0,k1,k2,px,k4,k5,k6,k7⟩:=aq.at K4.out;have HP:=ae (Dy w0 wr c (h:Int) bw.out dB.out kW.out.lines);go_wp2_with fail
               refine HP.out.mono ?_;rintro e w2 ⟨pa,pc,Yd,MP,rfl,MQ,hat,x2,Ye,Ot⟩;rw [(tC CA.out (h:Int)).2]at MQ;have Qe:=(tC CA.out (h:Int)).1;have MR:=tD c (h:Int);have hEl:(iR c (h:Int)).length≤1000000:=by rw [MR];exact Nat.le_trans (gI _ _ _) kW.out.lines
               have oK:=gI c (h:Int) c.lines.length;have N7:=kW.out.lines;have Yf:Hid (kI c h e0=cM (bW c.outs fun x _ e=>nd e (!ji c h x) 13) e0 c.outs.length):=rfl;have UC:Hid (∀x,ji c h x=F_ c.au.length (iR c h) (aC (eI (cJ c h c.lines.length) x.lines (cJ c h c.lines.length).length))):=fun _=>rfl;obtain ⟨Fo,UZ⟩: ∃Fo,Fo=(fun(x:bI) (_:Nat) (e:Int)=>nd e (!ji c h x) 13):=⟨_,rfl⟩;have HFo:Hid (∀x i e,Fo x i e=nd e (!ji c h x) 13):=fun x i e=>by rw [UZ]
               rw [←UZ]at Yf;clear UZ;have Qf:=UC.out;generalize iR c (h:Int)=E at*;have yZ:=iJ c (h:Int) c.lines.length;generalize cJ c (h:Int) c.lines.length=l at*;have U0:=ae MR;clear MR
               have xO:=ae MQ;have Ou:=ae hat;have HED:=ae Qe;have JB:=ae Qf
               have EL:=ae (sj.out.ext x2);have qf:=ae (K4.out.ext x2);have o0:=ae (Qd.out.ext x2);have dC:=ae (wR.out.trans (x2.but K))
               have vB:=sj.out.lt;have S6:Hid (∀p,pa=some p→p.block≠K):=fun p hp=>by have:=Ye p hp;omega
               have SZ:Hid (∀p,Yd=some p→p.block≠K):=fun p hp=>by have:=Ot p hp;omega
               have AW:=hat.le;have yI:=hat.cap
               rw [aK]at AW;clear Qf MQ hat Qe x2 Ye Ot k0 k1 k2 px k4 k5 k6 k7 k3 HP sj wR K4 Qd CA yZ vB;go_wp2_with fail
               go_loopw [14] (fun ii wx=> ∃i:Nat,i≤c.outs.length∧FE wx K (cM (bW c.outs Fo) e0 i)∧ak K V6 wx∧aG wx B 32 c.cells∧aG wx R 52 [i64 0,i64 0,i64 0]∧bP wx 2 pa pc (d_ E)∧aA wx Yd MP (aC l)∧ii= .int .i64 i) (fun ii _=>c.outs.length-(intOf ii).toNat)
               case atStart=>exact ⟨0,Nat.zero_le _,EL.out,dC.out,qf.out,o0.out,xO.out,Ou.out,rfl⟩
               case round=>
                obtain ⟨i,hi,hF,hX,hB,hR,MQ,hat,rfl⟩:=hrel;clear EL dC qf o0 xO Ou;have hlen:=kW.out.outs;by_cases hlt:i<c.outs.length
                ·have U1:=ae (dE (bW c.outs Fo) e0 i)
                 rw [gJ hlt,HFo.out]at U1;have bw:=ae (hX.ext UX.out bB.out);obtain ⟨ob,oo,Qg,-,o1,-,-⟩:=(dB.out.outs.ext bw.out).outs i hlt;have nQ:=(dB.out.out c.outs[i] (List.getElem_mem hlt)).2.1
                 have aa1:ob≠K:=by
                  obtain ⟨b3,o3,h3,q0,-⟩:=dB.out.outs.outs i hlt;rw [Qg]at h3;cases h3
                  have:=cU q0;simp only at this;have:=bB.out;omega
                 generalize cM (bW c.outs Fo) e0 i=e1 at*;have Qh:=ae (JB.out c.outs[i]);obtain ⟨x,eU⟩: ∃x,x=c.outs[i]:=⟨_,rfl⟩;rw [←eU]at o1 nQ U1 Qh;obtain ⟨-,-,k2,-,-,-,-,k7⟩:=aq.at hB;have HF:=ae hF;have HX:=ae hX;have HB:=ae hB;have HR:=ae hR;have xO:=ae MQ;have Ou:=ae hat
                 have w_:=ae nQ;have Yg:=ae Qg
                 have fM:(0:Int)≤(i:Int):=by omega
                 have fH:(i:Int)<(c.outs.length:Int):=by omega
                 have O1:=ae o1;clear hF hX hB hR MQ hat nQ Qg eU o1;obtain ⟨wo,uM⟩: ∃wo:World,wo=wr:=⟨_,rfl⟩;subst uM;go_wp2_with fail
                 go_loopw [15,16] (fun v kk wy=> ∃k:Nat,k≤l.length∧aH wy wo.heap.size 3 1 v (eV (eI l x.lines k))∧Ext wo wy∧kk= .int .i64 k) (fun _ kk _=>l.length-(intOf kk).toNat)
                 case atStart=>exact ⟨0,Nat.zero_le _,aH.nil _ _ _ _,Ext.refl _,rfl⟩
                 case round=>
                  obtain ⟨k,hk,hown,hE,rfl⟩:=hrel;have HO:=ae hown;clear hown k2 k7;by_cases hlk:k<l.length
                  ·obtain ⟨ab,ao,hab,i0⟩:=(Ou.out.ext hE).cell k (by rw [aK];exact hlk)
                   have Ob:(aC l)[k]'(by rw [aK];exact hlk)=((l[k]:Nat):Int):=by simp [aC]
                   rw [Ob]at i0
                   have HST:Hid (eI l x.lines (k+1)=if hasB x.lines ((l[k]:Nat):Int)=true then eI l x.lines k++ [k]else eI l x.lines k):=by
                        show _=_;have:l.getD k 0=l[k]:=by rw [List.getD_eq_getElem?_getD,List.getElem?_eq_getElem hlk];rfl
                        rw [←this];rfl
                   have Ga:=ae (n4 l x.lines k);generalize eI l x.lines k=gs at*;obtain ⟨lk,Qi⟩: ∃lk,lk=l[k]:=⟨_,rfl⟩;rw [←Qi]at i0 HST;have Ov:=ae (fun U (hU:Ext wr U)=>wA U x.la x.lc x.lines (lk:Int) (((w_.out.ext bw.out).ext hE).ext hU));obtain ⟨-,-,-,-,-,-,-,k7⟩:=aq.at (HB.out.ext hE);have o1:=ai hE O1.out;have I5:(0:Int)≤(k:Int):=by omega
                   have Lv:(k:Int)<(l.length:Int):=by omega
                   have HE:=ae hE;have se:=hE.size
                   have dg:=ae hab;clear hE Qi Ob hab;rw [dg.out];rcases Bool.eq_false_or_eq_true (hasB x.lines (lk:Int))with hq|hq
                   ·rw [hq]at Ov HST
                    clear hq
                    have HOW:Hid (wr.ownsRow wo.heap.size 3 1 u15 gs.length (eV gs).flatten):=by
                        have h5:=HO.out.own;rw [dD]at h5;exact h5
                    go_wp2_with fail
                    refine ay (fun w'=>w'.cell? ⟨B,7,none⟩=some (.slice c.oa c.outs.length c.oc)∧w'.cell? ⟨ob,oo+i*4+1,none⟩=some (.slice x.la x.lines.length x.lc)∧w'.cell? ⟨ab,ao+k,none⟩=some (i64 (lk:Int))) (fun w'=>True) (fun i=>false) (by kernel_rfl) (⟨ai (Ext.refl wr).drew k7,ai (Ext.refl wr).drew o1,ai (Ext.refl wr).drew i0⟩) (trivial) (fun ar ah=> ?_);refine av 0 (.pointer (some ⟨B,7,none⟩)) rfl ar ah ?_;simp only [sS];refine av 1 (.slice c.oa c.outs.length c.oc) rfl ar ah ?_;simp only [sS];refine av 2 (.int .i64 (i:Int)) rfl ar ah ?_;simp only [sS];refine av 3 (.pointer (some ⟨ob,oo+i*4,none⟩)) rfl ar ah ?_ (by rintro w ⟨e0,e1,e2⟩;have Qg:=Yg.out;go_simp);simp only [sS];refine av 4 (.pointer (some ⟨ob,oo+i*4+1,none⟩)) rfl ar ah ?_;simp only [sS];refine av 5 (.slice x.la x.lines.length x.lc) rfl ar ah ?_;simp only [sS];refine av 6 (.slice (some ⟨ab,ao,none⟩) l.length MP) rfl ar ah ?_;simp only [sS];refine av 7 (.int .i64 (k:Int)) rfl ar ah ?_;simp only [sS];refine av 8 (.pointer (some ⟨ab,ao+k,none⟩)) rfl ar ah ?_;simp only [sS];refine av 9 (i64 (lk:Int)) rfl ar ah ?_;simp only [sS];refine cG 10 rfl (fun Kc hK=> ?_);go_simp;refine (Ov.out wr.drew (Ext.refl wr).drew).mono ?_;rintro e w9 ⟨rfl,Qj⟩;rw [Qj];clear Qj;refine hK.out _ _ (⟨ai (Ext.refl wr).drew k7,ai (Ext.refl wr).drew o1,ai (Ext.refl wr).drew i0⟩) (trivial) (fun ar ah=> ?_);clear hK Kc;try simp only [sS]
                    refine ax (by kernel_rfl) ?_ _;clear ar ah;clear k7 o1 i0;go_wp2_with (at_builtin;refine aV _ rfl (.tmp 194) (.tmp 196) 22 rfl wo.heap.size 3 (.int .i64 0) 1 8 Tryz.underlying22 Tryz.info_int rfl (by decide) u15 gs.length (eV gs).flatten rfl ?c1 (some ⟨wr.heap.size,0,none⟩) 1 1 [i64 (k:Int)] rfl rfl ?c2 ?c3 ?c4 ?c5 (by decide) ?c6 ?_;rotate_right;intro v1 w5 ho he hb hz hv)
                    case c1=>exact bG HOW.out ((Ext.refl _).drew.alloc _)
                    case c2=>exact fun _=>⟨_,rfl,cC wr.drew 3 [i64 (k:Int)]⟩
                    case c3=>intro u hu;rw [List.mem_singleton]at hu;subst hu;rfl
                    case c4=>intro e;cases e
                    case c5=>have:=Ga.out;omega
                    case c6=>exact Nat.le_trans se ((Ext.refl wr).drew.alloc _).size
                    have x5:Ext wo w5:=he.out wo (HE.out.drew.alloc _) (Nat.le_refl _);have iC:=HO.out.snoc (w':=w5) (v':=v1) (r:= [i64 (k:Int)]) rfl (by rw [dD];exact ho.out);rw [←lq]at iC;exact ⟨⟨k+1,by omega,by rw [HST.out];simpa using iC,x5,by go_num⟩,by simp only [intOf];omega⟩
                   ·rw [hq]at Ov HST
                    clear hq;go_wp2_with fail
                    refine ay (fun w'=>w'.cell? ⟨B,7,none⟩=some (.slice c.oa c.outs.length c.oc)∧w'.cell? ⟨ob,oo+i*4+1,none⟩=some (.slice x.la x.lines.length x.lc)∧w'.cell? ⟨ab,ao+k,none⟩=some (i64 (lk:Int))) (fun w'=>True) (fun i=>false) (by kernel_rfl) (⟨ai (Ext.refl wr).drew k7,ai (Ext.refl wr).drew o1,ai (Ext.refl wr).drew i0⟩) (trivial) (fun ar ah=> ?_);refine av 0 (.pointer (some ⟨B,7,none⟩)) rfl ar ah ?_;simp only [sS];refine av 1 (.slice c.oa c.outs.length c.oc) rfl ar ah ?_;simp only [sS];refine av 2 (.int .i64 (i:Int)) rfl ar ah ?_;simp only [sS];refine av 3 (.pointer (some ⟨ob,oo+i*4,none⟩)) rfl ar ah ?_ (by rintro w ⟨e0,e1,e2⟩;have Qg:=Yg.out;go_simp);simp only [sS];refine av 4 (.pointer (some ⟨ob,oo+i*4+1,none⟩)) rfl ar ah ?_;simp only [sS];refine av 5 (.slice x.la x.lines.length x.lc) rfl ar ah ?_;simp only [sS];refine av 6 (.slice (some ⟨ab,ao,none⟩) l.length MP) rfl ar ah ?_;simp only [sS];refine av 7 (.int .i64 (k:Int)) rfl ar ah ?_;simp only [sS];refine av 8 (.pointer (some ⟨ab,ao+k,none⟩)) rfl ar ah ?_;simp only [sS];refine av 9 (i64 (lk:Int)) rfl ar ah ?_;simp only [sS];refine cG 10 rfl (fun Kc hK=> ?_);go_simp;refine (Ov.out wr.drew (Ext.refl wr).drew).mono ?_;rintro e w9 ⟨rfl,Qj⟩;rw [Qj];clear Qj;refine hK.out _ _ (⟨ai (Ext.refl wr).drew k7,ai (Ext.refl wr).drew o1,ai (Ext.refl wr).drew i0⟩) (trivial) (fun ar ah=> ?_);clear hK Kc;try simp only [sS]
                    refine ax (by kernel_rfl) ?_ _;clear ar ah;clear k7 o1 i0;go_wp2_with fail
                    exact ⟨⟨k+1,by omega,by rw [HST.out];simpa using HO.out.ext (Ext.refl wr).drew,HE.out.drew,by go_num⟩,by simp only [intOf];omega⟩
                  ·obtain rfl:k=l.length:=by omega
                   obtain ⟨ga,gc,rfl,hS,-⟩:=HO.out.recs (by decide);rw [dD,←aK (eI l x.lines l.length)];rw [lr]at hS;have Yh:=aA.kn hS (mF (qo l x.lines l.length) (by omega));have U2:=uI wr c.au.length pa pc E ga gc (aC (eI l x.lines l.length)) kW.out.au hEl (xO.out.ext hE) HED.out Yh;rw [U0.out]at U2;have Gv:=ae U2;obtain ⟨-,-,k2,-,-,-,-,-⟩:=aq.at (HB.out.ext hE);have UT:=ae (HF.out.ext hE);have MO:=ae (HB.out.ext hE);have qR:=ae (HR.out.ext hE);have jY:=ae (HX.out.trans (hE.but K));have U3:=ae (xO.out.ext hE);have U4:=ae (Ou.out.ext hE)
                   clear hS Yh U2 hE HO HF HB HR HX xO Ou;go_wp2_with fail
                   refine Gv.out.mono ?_;rintro e w6 ⟨rfl,x6⟩;rw [←Qh.out];have AV:=ae x6;clear x6 k2;go_wp2_with fail
                   refine (aU _ K _ _ _ _ _ _ (UT.out.ext AV.out)).mono ?_;rintro e w7 ⟨rfl,hf,hx⟩;rw [←U1.out]at hf;have kO:=ae (And.intro hf (And.intro ((jY.out.trans (AV.out.but K)).trans hx) (And.intro ((MO.out.ext AV.out).but hx bL) (And.intro ((qR.out.ext AV.out).but hx CI) (And.intro (bP.but (U3.out.ext AV.out) hx S6.out) ((U4.out.ext AV.out).fS hx SZ.out))))));clear hf hx;go_wp2_with fail
                   exact ⟨⟨i+1,by omega,kO.out.1,kO.out.2.1,kO.out.2.2.1,kO.out.2.2.2.1,kO.out.2.2.2.2.1,kO.out.2.2.2.2.2,by go_num⟩,by simp only [intOf];omega⟩
                ·obtain rfl:i=c.outs.length:=by omega
                 obtain ⟨-,-,-,-,-,-,-,k7⟩:=aq.at hB;have kO:=ae (And.intro hF (And.intro hX (And.intro hB hR)));clear hF hX hB hR MQ hat;go_wp2_with fail
                 exact ⟨⟨h+1,by omega,by rw [HS.out,Yf.out];exact kO.out.1,kO.out.2.1,kO.out.2.2.1,kO.out.2.2.2,by go_num⟩,by simp only [intOf];omega⟩
              ·have hq:=UY.out (by omega)
               have HE:=ae hq;have th:decide ((h:Int)<c.hours)=false:=by simp;omega
               obtain ⟨k0,-⟩:=aq.at K4.out;clear hq;go_wp2_with fail
               go_meet
               exact ⟨by rw [←HE.out];exact sj.out,wR.out,K4.out,Qd.out⟩
             ·have t1:(e0==0)=false:=by simpa using h0
              have HE:=ae (tq.out h0);clear h0 hz;obtain ⟨k0,-⟩:=aq.at K4.out;rcases Bool.eq_false_or_eq_true (decide ((h:Int)<c.hours))with th|th
              ·go_wp2_with fail
               go_meet
               exact ⟨by rw [oL.out,←HE.out];exact sj.out,wR.out,K4.out,Qd.out⟩
              ·go_wp2_with fail
               go_meet
               exact ⟨by rw [oL.out,←HE.out];exact sj.out,wR.out,K4.out,Qd.out⟩
       case rest=>
        obtain ⟨hF,hX,hB,hR⟩:=hcut;generalize wc=V7 at*;have HF:=ae hF;have HB:=ae hB;have HR:=ae hR
        have bV:=ae (bV.out.trans hX);have bw:=ae (hX.ext bw.out bB.out)
        have hce:e7=ce:=by
         rw [Br.out];unfold bT tA q9 qZ j8 mJ ko mI
         rw [←UR.out,←kt.out,←j4.out,←nc.out,←ng.out,←qc.out,←vD.out,←oL.out]
        rw [hce]at hF;obtain ⟨fk,fi,ff,U5⟩:=hF;obtain ⟨c0,c1,c2,c3,-⟩:=Cj U5;have r0:V7.cell? ⟨R,0,none⟩=some (i64 0):=(hR.cell 0).trans rfl;have r1:V7.cell? ⟨R,1,none⟩=some (i64 0):=(hR.cell 1).trans rfl;have r2:V7.cell? ⟨R,2,none⟩=some (i64 0):=(hR.cell 2).trans rfl;have q0:V7.frozen? ⟨R,0,none⟩=false:=hR.frozen 0;have q1:V7.frozen? ⟨R,1,none⟩=false:=hR.frozen 1;have q2:V7.frozen? ⟨R,2,none⟩=false:=hR.frozen 2;have qx: ∀o,(⟨R,o,none⟩:Addr).block≠K:=fun o=>CI;have GU:=ae (((hR.set 0 (i64 fk)).set 1 (i64 fi)).set 2 (i64 ff));have UO:Hid (KF (((V7.setCell ⟨R,0,none⟩ (i64 fk)).setCell ⟨R,1,none⟩ (i64 fi)).setCell ⟨R,2,none⟩ (i64 ff)) K ⟨fk,fi,ff,ce⟩):=((U5.other _ _ (qx 0)).other _ _ (qx 1)).other _ _ (qx 2);obtain ⟨d0,d1,d2,d3,-⟩:=Cj UO.out;obtain ⟨s0,s1,s2⟩:(((V7.setCell ⟨R,0,none⟩ (i64 fk)).setCell ⟨R,1,none⟩ (i64 fi)).setCell ⟨R,2,none⟩ (i64 ff)).drew.cell? ⟨R,0,none⟩=some (i64 fk)∧(((V7.setCell ⟨R,0,none⟩ (i64 fk)).setCell ⟨R,1,none⟩ (i64 fi)).setCell ⟨R,2,none⟩ (i64 ff)).drew.cell? ⟨R,1,none⟩=some (i64 fi)∧(((V7.setCell ⟨R,0,none⟩ (i64 fk)).setCell ⟨R,1,none⟩ (i64 fi)).setCell ⟨R,2,none⟩ (i64 ff)).drew.cell? ⟨R,2,none⟩=some (i64 ff):=⟨(GU.out.cell 0).trans rfl,(GU.out.cell 1).trans rfl,(GU.out.cell 2).trans rfl⟩;have Qc:Hid (Ext w0 (((V7.setCell ⟨R,0,none⟩ (i64 fk)).setCell ⟨R,1,none⟩ (i64 fi)).setCell ⟨R,2,none⟩ (i64 ff)).drew):=(((bw.out.setCell (p:=⟨R,0,none⟩) IK.out _).setCell (p:=⟨R,1,none⟩) IK.out _).setCell (p:=⟨R,2,none⟩) IK.out _).drew;clear hX hB hR U5 hce qx;go_wp2_with fail
        refine ay (fun w'=>w'.cell? ⟨K,0,none⟩=some (i64 fk)∧w'.cell? ⟨K,1,none⟩=some (i64 fi)∧w'.cell? ⟨K,2,none⟩=some (i64 ff)∧w'.cell? ⟨K,3,none⟩=some (i64 ce)) (fun w'=>True) (fun i=>false) (by kernel_rfl) (⟨c0,c1,c2,c3⟩) (trivial) (fun ar ah=> ?_);refine av 0 (.pointer (some ⟨K,0,none⟩)) rfl ar ah ?_;simp only [sS];refine av 1 (.pointer (some ⟨K,0,none⟩)) rfl ar ah ?_;simp only [sS];refine av 2 (.pointer (some ⟨K,0,none⟩)) rfl ar ah ?_;simp only [sS];refine av 3 (.agg #[i64 fk,i64 fi,i64 ff]) rfl ar ah ?_;simp only [sS];refine av 4 (.pointer (some ⟨K,0,none⟩)) rfl ar ah ?_;simp only [sS];refine av 5 (.pointer (some ⟨K,0,none⟩)) rfl ar ah ?_;simp only [sS];refine av 6 (.pointer (some ⟨K,3,none⟩)) rfl ar ah ?_;simp only [sS];refine av 7 (i64 ce) rfl ar ah ?_;simp only [sS];refine cG 8 rfl (fun Kc hK=> ?_);go_simp;refine hK.out _ _ (⟨d0,d1,d2,d3⟩) (trivial) (fun ar ah=> ?_);clear hK Kc;try simp only [sS]
        refine av 9 (i64 ce) rfl ar ah ?_;simp only [sS];refine ax (by kernel_rfl) ?_ _;clear ar ah;go_wp2_with fail
        exact bodyPost_ret (v:= .tuple #[.agg #[i64 fk,i64 fi,i64 ff],i64 ce]) (by simp [results,Tryz.results21,go_sem,s0,s1,s2]) rfl ⟨fk,fi,ff,rfl,Qc.out⟩
end Go.Proofs.YtkpngkdgphojlaaGreat
