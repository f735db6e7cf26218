/- Texts of the proof. -/
import Derived.Test.YtkpngkdgphojlaaGreatCf20
set_option linter.all false
set_option maxHeartbeats 4000000
set_option maxRecDepth 100000
namespace Go.Proofs.YtkpngkdgphojlaaGreat
open Go.Proofs.Tryz
open Go.RowKit
theorem tq (w0:World) (c:ai) (hc:a_ w0 c) (hl:oA c):
 Calls prog 21 #[.agg (C8 c)] w0 fun e w'=> ∃k i f,e= .returned (.tuple #[.agg #[i64 k,i64 i,i64 f],i64 (dW c)])∧Ext w0 w':=by
 try unfold C8
 have f_:=ae hc;have lD:=ae hl
 obtain ⟨ce,hce⟩: ∃ce,ce=dW c:=⟨_,rfl⟩;rw [←hce];have OS:=ae hce;clear hce;clear hc hl;go_enter func21,ntmps21
 go_upto_region 1 with fail
 obtain ⟨W0,hW,x0,Z0,A0,A1⟩:=er w0 32 c.cells 52 [i64 0,i64 0,i64 0];rw [show(w0.alloc (.cells (C8 c) 32)).alloc (.cells #[i64 0,i64 0,i64 0] 52)=W0 from hW.symm];clear hW;go_upto_region 2 with fail
 obtain ⟨W1,hW,x1,Z1,A2⟩:=aX W0 101 [i64 0,i64 0,i64 0,i64 0];rw [show W0.alloc (.cells #[i64 0,i64 0,i64 0,i64 0] 101)=W1 from hW.symm];clear hW;have z0:=Z0.o;obtain ⟨B,hB⟩: ∃B,B=w0.heap.size:=⟨_,rfl⟩;obtain ⟨R,hR⟩: ∃R,R=w0.heap.size+1:=⟨_,rfl⟩;obtain ⟨K,hK⟩: ∃K,K=W0.heap.size:=⟨_,rfl⟩;rw [←hR]at A1⊢;rw [←hB]at A0⊢;rw [←hK]at A2⊢;have gQ:B≠K:=by omega
 have Ff:R≠K:=by omega
 have df:Hid (w0.heap.size≤K):=by show _≤_;omega
 have HF:Hid (FE W1 K 0):=⟨0,0,0,A2⟩;have HB:=ae (A0.ext x1);have HR:=ae (A1.ext x1)
 have gV:=ae (x0.trans x1);have kV:Hid (ar K W1 W1):=ar.refl _ _;have KQ:Hid (w0.heap.size≤R):=by show _≤_;omega
 obtain ⟨ef,he⟩: ∃e',e'=jq c 0:=⟨_,rfl⟩;have X8:=ae he;clear he A0 A1 A2 x0 x1 Z0 Z1 z0 hB hR hK;obtain ⟨k0,k1,k2,k3,k4,k5,k6,k7⟩:=ai.at HB.o;go_wp2_with fail
 refine (Gw w0 W1 K c 0 df.o gV.o f_.o lD.o HF.o).mono ?_;rintro e W2 ⟨rfl,hf,hx⟩;rw [←X8.o]at hf;have HF:=ae hf;have HB:=ae (HB.o.but hx gQ);have HR:=ae (HR.o.but hx Ff)
 have kV:=ae (kV.o.trans hx);have gV:=ae (hx.ext gV.o df.o)
 clear hf hx k0 k1 k2 k3 k4 k5 k6 k7;obtain ⟨e1,he⟩: ∃e',e'=cZ (cg c.aj (sR c)) ef c.aj.length:=⟨_,rfl⟩;have wW:=ae he;clear he
 go_upto_block 0 with fail
 go_cut [] (fun wx=>FE wx K e1∧ar K W2 wx∧aQ wx B 32 c.cells∧aQ wx R 52 [i64 0,i64 0,i64 0])
 case first=>
  as_aux_lemma=>
   go_wp2_with fail
   go_loopw [5] (fun ii wx=> ∃i:Nat,i≤c.aj.length∧FE wx K (cZ (cg c.aj (sR c)) ef i)∧ar K W2 wx∧aQ wx B 32 c.cells∧aQ wx R 52 [i64 0,i64 0,i64 0]∧ii= .int .i64 i) (fun ii _=>c.aj.length-(intOf ii).toNat)
   case atStart=>exact ⟨0,Nat.zero_le _,HF.o,ar.refl _ _,HB.o,HR.o,rfl⟩
   case round=>
    obtain ⟨i,hi,hF,hX,hB,hR,rfl⟩:=hrel;have hne:=fun q=>ir (F:=cg c.aj (sR c)) (fun i e h=>dh (qZ c) i e h) (e:=ef) (n:=c.aj.length) hi q;have k3:=hF.cell;have hlen:=lD.o.aj;by_cases hlt:i<c.aj.length
    ·have HS:=ae (ee (cg c.aj (sR c)) ef i)
     rw [iT hlt]at HS;generalize cZ (cg c.aj (sR c)) ef i=e0 at*;have HF:=ae hF;have HX:=ae hX;have HB:=ae hB;have HR:=ae hR;have nW:=ae hne
     have gV:=ae (hX.ext gV.o df.o);clear hF hX hB hR hne;by_cases h0:e0=0
     ·have t1:(e0==0)=true:=by simpa using h0
      clear h0;obtain ⟨bb,bo,ha,b0,b1,b2⟩:=(f_.o.aj.ext gV.o).aj i hlt;have Qx:=f_.o.cS c.aj[i] (List.getElem_mem hlt);have l_:Hid (∃h:i<(c.aj.map cN.name).length,(c.aj.map cN.name)[i]=c.aj[i].name∧(c.aj.map cN.name).take i=(c.aj.take i).map cN.name):=⟨by simpa using hlt,by simp,by rw [List.map_take]⟩;have vr:Hid ((c.aj.map cN.name).length≤1000000):=by(show _≤_;rw [List.length_map];exact hlen)
      obtain ⟨prev,Dc⟩: ∃prev,prev=(c.aj.take i).map cN.name:=⟨_,rfl⟩;have HS:Hid (cZ (cg c.aj (sR c)) ef (i+1)=tO c c.aj[i] ((c.aj.take i).map cN.name) e0):=HS.o;rw [←Dc]at HS l_;obtain ⟨x,uj⟩: ∃x,x=c.aj[i]:=⟨_,rfl⟩;rw [←uj]at b0 b1 b2 Qx HS l_;have uF:=ae ha;have jf:=ae Qx;have uB:=ae uj
      have jS:(0:Int)≤(i:Int):=by omega
      have jI:(i:Int)<(c.aj.length:Int):=by omega
      clear ha Qx Dc uj;obtain ⟨k0,k1,k2,ri,k4,k5,k6,k7⟩:=ai.at HB.o;have HC:=ae (mA w0 wr K c e0 1 i prev _ x.name (pG c) (by decide) l_.o vr.o df.o gV.o f_.o jf.o.1 HF.o);go_wp2_with fail
      refine HC.o.mono ?_;rintro e w2 ⟨rfl,hf,hx⟩;have Gf:=ae hf;have ez:=ae (HX.o.trans hx);have sI:=ae (HB.o.but hx gQ);have xg:=ae (HR.o.but hx Ff)
      have LK:=ae (hx.ext gV.o df.o);clear b0 b1 b2 hf hx k0 k1 k2 k3 ri k4 k5 k6 k7 HC;obtain ⟨bb',bo',ha,b0,b1,b2⟩:=(f_.o.aj.ext LK.o).aj i hlt;rw [uF.o]at ha;cases ha
      rw [←show x=c.aj[i]from uB.o]at b0 b1 b2;clear b0;obtain ⟨k0,k1,k2,ri,k4,k5,k6,k7⟩:=ai.at sI.o
      have La:bb≠K:=by
       obtain ⟨b3,o3,h3,q0,-⟩:=f_.o.aj.aj i hlt;rw [uF.o]at h3;cases h3
       have:=cG q0;simp only at this;have:=df.o;omega
      have HH:=ae (fun U (hU:Ext w0 U) (hF:FE U K (iF e0 x.name prev))=>pW w0 U K c (iF e0 x.name prev) x.da x.dc x.cf 0 1048576 1 i 1 df.o hU jf.o.2.1 hF);go_wp2_with fail
      refine aL (fun w'=>w'.cell? ⟨B,0,none⟩=some (i64 c.hours)∧w'.cell? ⟨B,1,none⟩=some (.slice c.ra c.aA.length c.rc)∧w'.cell? ⟨B,2,none⟩=some (.slice c.ba c.aj.length c.bc)∧w'.cell? ⟨B,3,none⟩=some (.slice c.la c.lines.length c.lc)∧w'.cell? ⟨B,4,none⟩=some (.slice c.ua c.aq.length c.uc)∧w'.cell? ⟨B,5,none⟩=some (.slice c.sa c.stores.length c.sc)∧w'.cell? ⟨B,6,none⟩=some (.slice c.ta c.aB.length c.tc)∧w'.cell? ⟨B,7,none⟩=some (.slice c.oa c.outs.length c.oc)∧w'.cell? ⟨bb,bo+i*3+1,none⟩=some (.slice x.da x.cf.length x.dc)) (fun w'=>True) (fun i=>false) (by kernel_rfl) (⟨k0,k1,k2,ri,k4,k5,k6,k7,b1⟩) (trivial) (fun ay ah=> ?_);refine aF 0 ay ah ?_;refine aF 1 ay ah ?_ (v:= .agg (C8 c));refine aF 2 ay ah ?_;refine aF 3 ay ah ?_;refine aF 4 ay ah ?_ (v:= .int .i64 (i:Int));refine aF 5 ay ah ?_ (hy:=by rintro w ⟨e0,e1,e2,e3,e4,e5,e6,e7,e8⟩;have ha:=uF.o;go_simp;try rfl);refine aF 6 ay ah ?_;refine aF 7 ay ah ?_;refine aF 8 ay ah ?_ (v:= .int .i64 (i:Int));refine fp 9 rfl (fun Kc hK=> ?_);go_simp;refine (HH.o w2.drew (LK.o.trans (Ext.refl w2).drew) (Gf.o.ext (Ext.refl w2).drew)).mono ?_;rintro e W5 ⟨rfl,Ix,dY⟩;refine hK.o _ _ (⟨cK (ak (Ext.refl w2).drew k0) dY gQ,cK (ak (Ext.refl w2).drew k1) dY gQ,cK (ak (Ext.refl w2).drew k2) dY gQ,cK (ak (Ext.refl w2).drew ri) dY gQ,cK (ak (Ext.refl w2).drew k4) dY gQ,cK (ak (Ext.refl w2).drew k5) dY gQ,cK (ak (Ext.refl w2).drew k6) dY gQ,cK (ak (Ext.refl w2).drew k7) dY gQ,cK (ak (Ext.refl w2).drew b1) dY La⟩) (trivial) (fun ay ah=> ?_);clear hK Kc;try simp only [sS]
      refine aD (by kernel_rfl) ?_ _;clear ay ah;clear k0 k1 k2 ri k4 k5 k6 k7 b1 b2 Gf HH;have X9:=ae Ix;have kX:=ae (ez.o.trans (((Ext.refl w2).drew.but K).trans dY));have Vr:Hid (aQ W5 B 32 c.cells):=(sI.o.ext (Ext.refl w2).drew).but dY gQ
      have tK:Hid (aQ W5 R 52 [i64 0,i64 0,i64 0]):=(xg.o.ext (Ext.refl w2).drew).but dY Ff;have X_:=ae (dY.ext (LK.o.trans (Ext.refl w2).drew) df.o);clear Ix dY ez sI xg LK;obtain ⟨-,-,k2,-,-,-,-,-⟩:=ai.at Vr.o;obtain ⟨bb',bo',ha,-,-,b2⟩:=(f_.o.aj.ext X_.o).aj i hlt;rw [uF.o]at ha;cases ha
      rw [←show x=c.aj[i]from uB.o]at b2;rw [uF.o]at k2;go_wp2_with fail
      refine (zb W5 x.lF 0 1048576 jf.o.2.2).mono ?_;rintro e w1 ⟨rfl,rfl⟩;go_wp2_with fail
      refine (cP _ K _ _ _ _ _ _ (X9.o.alloc _)).mono ?_;rintro e W6 ⟨rfl,hf,hx⟩;have mL:=ae (And.intro hf (And.intro ((kX.o.alloc' _).trans hx) (And.intro ((Vr.o.alloc' _).but hx gQ) ((tK.o.alloc' _).but hx Ff))));clear hf hx k2 b2;go_wp2_with fail
      exact ⟨⟨i+1,by omega,by rw [HS.o];exact mL.o.1,mL.o.2.1,mL.o.2.2.1,mL.o.2.2.2,by go_num⟩,by simp only [intOf];omega⟩
     ·have t1:(e0==0)=false:=by simpa using h0
      have HE:=ae (nW.o h0);clear h0;obtain ⟨k0,k1,k2,ri,k4,k5,k6,k7⟩:=ai.at HB.o;go_wp2_with fail
      go_meet
      exact ⟨by rw [wW.o,←HE.o];exact HF.o,HX.o,HB.o,HR.o⟩
    ·obtain rfl:i=c.aj.length:=by omega
     rw [←wW.o]at hF;have HF:=ae hF;have HX:=ae hX;have HB:=ae hB;have HR:=ae hR
     clear hne hF hX hB hR;obtain ⟨k0,k1,k2,ri,k4,k5,k6,k7⟩:=ai.at HB.o;go_wp2_with fail
     go_meet
     exact ⟨HF.o,HX.o,HB.o,HR.o⟩
 case rest=>
  obtain ⟨hF,hX,hB,hR⟩:=hcut;generalize wc=V1 at*;have HF:=ae hF;have HB:=ae hB;have HR:=ae hR
  have kV:=ae (kV.o.trans hX);have gV:=ae (hX.ext gV.o df.o)
  clear hF hX hB hR;obtain ⟨e2,he⟩: ∃e',e'=cZ (cg c.lines (nT c)) e1 c.lines.length:=⟨_,rfl⟩;have zk:=ae he;clear he
  go_upto_block 2 with fail
  go_cut [] (fun wx=>FE wx K e2∧ar K V1 wx∧aQ wx B 32 c.cells∧aQ wx R 52 [i64 0,i64 0,i64 0])
  case first=>
   as_aux_lemma=>
    go_wp2_with fail
    go_loopw [6] (fun ii wx=> ∃i:Nat,i≤c.lines.length∧FE wx K (cZ (cg c.lines (nT c)) e1 i)∧ar K V1 wx∧aQ wx B 32 c.cells∧aQ wx R 52 [i64 0,i64 0,i64 0]∧ii= .int .i64 i) (fun ii _=>c.lines.length-(intOf ii).toNat)
    case atStart=>exact ⟨0,Nat.zero_le _,HF.o,ar.refl _ _,HB.o,HR.o,rfl⟩
    case round=>
     obtain ⟨i,hi,hF,hX,hB,hR,rfl⟩:=hrel;have hne:=fun q=>ir (F:=cg c.lines (nT c)) (fun i e h=>dh (sU c) i e h) (e:=e1) (n:=c.lines.length) hi q;have k3:=hF.cell;have hlen:=lD.o.lines;by_cases hlt:i<c.lines.length
     ·have HS:=ae (ee (cg c.lines (nT c)) e1 i)
      rw [iT hlt]at HS;generalize cZ (cg c.lines (nT c)) e1 i=e0 at*;have HF:=ae hF;have HX:=ae hX;have HB:=ae hB;have HR:=ae hR;have nW:=ae hne
      have gV:=ae (hX.ext gV.o df.o);clear hF hX hB hR hne;by_cases h0:e0=0
      ·have t1:(e0==0)=true:=by simpa using h0
       clear h0;obtain ⟨k0,k1,k2,ri,k4,k5,k6,k7⟩:=ai.at HB.o;have HC:=ae (I5 w0 wr K c e0 i hlt df.o gV.o f_.o hlen HF.o);go_wp2_with fail
       refine HC.o.mono ?_;rintro e w2 ⟨rfl,hf,hx⟩;have mL:=ae (And.intro hf (And.intro (HX.o.trans hx) (And.intro (HB.o.but hx gQ) (HR.o.but hx Ff))));clear hf hx k0 k1 k2 k3 ri k4 k5 k6 k7;go_wp2_with fail
       exact ⟨⟨i+1,by omega,by rw [HS.o];exact mL.o.1,mL.o.2.1,mL.o.2.2.1,mL.o.2.2.2,by go_num⟩,by simp only [intOf];omega⟩
      ·have t1:(e0==0)=false:=by simpa using h0
       have HE:=ae (nW.o h0);clear h0;obtain ⟨k0,k1,k2,ri,k4,k5,k6,k7⟩:=ai.at HB.o;go_wp2_with fail
       go_meet
       exact ⟨by rw [zk.o,←HE.o];exact HF.o,HX.o,HB.o,HR.o⟩
     ·obtain rfl:i=c.lines.length:=by omega
      rw [←zk.o]at hF;have HF:=ae hF;have HX:=ae hX;have HB:=ae hB;have HR:=ae hR
      clear hne hF hX hB hR;obtain ⟨k0,k1,k2,ri,k4,k5,k6,k7⟩:=ai.at HB.o;go_wp2_with fail
      go_meet
      exact ⟨HF.o,HX.o,HB.o,HR.o⟩
  case rest=>
   obtain ⟨hF,hX,hB,hR⟩:=hcut;generalize wc=V2 at*;have HF:=ae hF;have HB:=ae hB;have HR:=ae hR
   have kV:=ae (kV.o.trans hX);have gV:=ae (hX.ext gV.o df.o)
   clear hF hX hB hR;obtain ⟨e3,he⟩: ∃e',e'=cZ (cg c.aq (nU c)) e2 c.aq.length:=⟨_,rfl⟩;have wX:=ae he;clear he
   go_upto_block 4 with fail
   go_cut [] (fun wx=>FE wx K e3∧ar K V2 wx∧aQ wx B 32 c.cells∧aQ wx R 52 [i64 0,i64 0,i64 0])
   case first=>
    as_aux_lemma=>
     go_wp2_with fail
     go_loopw [7] (fun ii wx=> ∃i:Nat,i≤c.aq.length∧FE wx K (cZ (cg c.aq (nU c)) e2 i)∧ar K V2 wx∧aQ wx B 32 c.cells∧aQ wx R 52 [i64 0,i64 0,i64 0]∧ii= .int .i64 i) (fun ii _=>c.aq.length-(intOf ii).toNat)
     case atStart=>exact ⟨0,Nat.zero_le _,HF.o,ar.refl _ _,HB.o,HR.o,rfl⟩
     case round=>
      obtain ⟨i,hi,hF,hX,hB,hR,rfl⟩:=hrel;have hne:=fun q=>ir (F:=cg c.aq (nU c)) (fun i e h=>dh (o7 c) i e h) (e:=e2) (n:=c.aq.length) hi q;have k3:=hF.cell;have hlen:=lD.o.aq;by_cases hlt:i<c.aq.length
      ·have HS:=ae (ee (cg c.aq (nU c)) e2 i)
       rw [iT hlt]at HS;generalize cZ (cg c.aq (nU c)) e2 i=e0 at*;have HF:=ae hF;have HX:=ae hX;have HB:=ae hB;have HR:=ae hR;have nW:=ae hne
       have gV:=ae (hX.ext gV.o df.o);clear hF hX hB hR hne;by_cases h0:e0=0
       ·have t1:(e0==0)=true:=by simpa using h0
        clear h0;obtain ⟨k0,k1,k2,ri,k4,k5,k6,k7⟩:=ai.at HB.o;have HC:=ae (I7 w0 wr K c e0 i hlt df.o gV.o f_.o hlen HF.o);go_wp2_with fail
        refine HC.o.mono ?_;rintro e w2 ⟨rfl,hf,hx⟩;have mL:=ae (And.intro hf (And.intro (HX.o.trans hx) (And.intro (HB.o.but hx gQ) (HR.o.but hx Ff))));clear hf hx k0 k1 k2 k3 ri k4 k5 k6 k7;go_wp2_with fail
        exact ⟨⟨i+1,by omega,by rw [HS.o];exact mL.o.1,mL.o.2.1,mL.o.2.2.1,mL.o.2.2.2,by go_num⟩,by simp only [intOf];omega⟩
       ·have t1:(e0==0)=false:=by simpa using h0
        have HE:=ae (nW.o h0);clear h0;obtain ⟨k0,k1,k2,ri,k4,k5,k6,k7⟩:=ai.at HB.o;go_wp2_with fail
        go_meet
        exact ⟨by rw [wX.o,←HE.o];exact HF.o,HX.o,HB.o,HR.o⟩
      ·obtain rfl:i=c.aq.length:=by omega
       rw [←wX.o]at hF;have HF:=ae hF;have HX:=ae hX;have HB:=ae hB;have HR:=ae hR
       clear hne hF hX hB hR;obtain ⟨k0,k1,k2,ri,k4,k5,k6,k7⟩:=ai.at HB.o;go_wp2_with fail
       go_meet
       exact ⟨HF.o,HX.o,HB.o,HR.o⟩
   case rest=>
    obtain ⟨hF,hX,hB,hR⟩:=hcut;generalize wc=V3 at*;have HF:=ae hF;have HB:=ae hB;have HR:=ae hR
    have kV:=ae (kV.o.trans hX);have gV:=ae (hX.ext gV.o df.o)
    clear hF hX hB hR;obtain ⟨e4,he⟩: ∃e',e'=cZ (cg c.stores (kB c)) e3 c.stores.length:=⟨_,rfl⟩;have zl:=ae he;clear he
    go_upto_block 6 with fail
    go_cut [] (fun wx=>FE wx K e4∧ar K V3 wx∧aQ wx B 32 c.cells∧aQ wx R 52 [i64 0,i64 0,i64 0])
    case first=>
     as_aux_lemma=>
      go_wp2_with fail
      go_loopw [8] (fun ii wx=> ∃i:Nat,i≤c.stores.length∧FE wx K (cZ (cg c.stores (kB c)) e3 i)∧ar K V3 wx∧aQ wx B 32 c.cells∧aQ wx R 52 [i64 0,i64 0,i64 0]∧ii= .int .i64 i) (fun ii _=>c.stores.length-(intOf ii).toNat)
      case atStart=>exact ⟨0,Nat.zero_le _,HF.o,ar.refl _ _,HB.o,HR.o,rfl⟩
      case round=>
       obtain ⟨i,hi,hF,hX,hB,hR,rfl⟩:=hrel;have hne:=fun q=>ir (F:=cg c.stores (kB c)) (fun i e h=>dh (ni c) i e h) (e:=e3) (n:=c.stores.length) hi q;have k3:=hF.cell;have hlen:=lD.o.stores;by_cases hlt:i<c.stores.length
       ·have HS:=ae (ee (cg c.stores (kB c)) e3 i)
        rw [iT hlt]at HS;generalize cZ (cg c.stores (kB c)) e3 i=e0 at*;have HF:=ae hF;have HX:=ae hX;have HB:=ae hB;have HR:=ae hR;have nW:=ae hne
        have gV:=ae (hX.ext gV.o df.o);clear hF hX hB hR hne;by_cases h0:e0=0
        ·have t1:(e0==0)=true:=by simpa using h0
         clear h0;obtain ⟨k0,k1,k2,ri,k4,k5,k6,k7⟩:=ai.at HB.o;have HC:=ae (Gv w0 wr K c e0 i hlt df.o gV.o f_.o hlen HF.o);go_wp2_with fail
         refine HC.o.mono ?_;rintro e w2 ⟨rfl,hf,hx⟩;have mL:=ae (And.intro hf (And.intro (HX.o.trans hx) (And.intro (HB.o.but hx gQ) (HR.o.but hx Ff))));clear hf hx k0 k1 k2 k3 ri k4 k5 k6 k7;go_wp2_with fail
         exact ⟨⟨i+1,by omega,by rw [HS.o];exact mL.o.1,mL.o.2.1,mL.o.2.2.1,mL.o.2.2.2,by go_num⟩,by simp only [intOf];omega⟩
        ·have t1:(e0==0)=false:=by simpa using h0
         have HE:=ae (nW.o h0);clear h0;obtain ⟨k0,k1,k2,ri,k4,k5,k6,k7⟩:=ai.at HB.o;go_wp2_with fail
         go_meet
         exact ⟨by rw [zl.o,←HE.o];exact HF.o,HX.o,HB.o,HR.o⟩
       ·obtain rfl:i=c.stores.length:=by omega
        rw [←zl.o]at hF;have HF:=ae hF;have HX:=ae hX;have HB:=ae hB;have HR:=ae hR
        clear hne hF hX hB hR;obtain ⟨k0,k1,k2,ri,k4,k5,k6,k7⟩:=ai.at HB.o;go_wp2_with fail
        go_meet
        exact ⟨HF.o,HX.o,HB.o,HR.o⟩
    case rest=>
     obtain ⟨hF,hX,hB,hR⟩:=hcut;generalize wc=V4 at*;have HF:=ae hF;have HB:=ae hB;have HR:=ae hR
     have kV:=ae (kV.o.trans hX);have gV:=ae (hX.ext gV.o df.o)
     clear hF hX hB hR;obtain ⟨e5,he⟩: ∃e',e'=cZ (cg c.aB (uo c)) e4 c.aB.length:=⟨_,rfl⟩;have MV:=ae he;clear he
     go_upto_block 8 with fail
     go_cut [] (fun wx=>FE wx K e5∧ar K V4 wx∧aQ wx B 32 c.cells∧aQ wx R 52 [i64 0,i64 0,i64 0])
     case first=>
      as_aux_lemma=>
       go_wp2_with fail
       go_loopw [9] (fun ii wx=> ∃i:Nat,i≤c.aB.length∧FE wx K (cZ (cg c.aB (uo c)) e4 i)∧ar K V4 wx∧aQ wx B 32 c.cells∧aQ wx R 52 [i64 0,i64 0,i64 0]∧ii= .int .i64 i) (fun ii _=>c.aB.length-(intOf ii).toNat)
       case atStart=>exact ⟨0,Nat.zero_le _,HF.o,ar.refl _ _,HB.o,HR.o,rfl⟩
       case round=>
        obtain ⟨i,hi,hF,hX,hB,hR,rfl⟩:=hrel;have hne:=fun q=>ir (F:=cg c.aB (uo c)) (fun i e h=>dh (q9 c) i e h) (e:=e4) (n:=c.aB.length) hi q;have k3:=hF.cell;have hlen:=lD.o.aB;by_cases hlt:i<c.aB.length
        ·have HS:=ae (ee (cg c.aB (uo c)) e4 i)
         rw [iT hlt]at HS;generalize cZ (cg c.aB (uo c)) e4 i=e0 at*;have HF:=ae hF;have HX:=ae hX;have HB:=ae hB;have HR:=ae hR;have nW:=ae hne
         have gV:=ae (hX.ext gV.o df.o);clear hF hX hB hR hne;by_cases h0:e0=0
         ·have t1:(e0==0)=true:=by simpa using h0
          clear h0;obtain ⟨k0,k1,k2,ri,k4,k5,k6,k7⟩:=ai.at HB.o;have HC:=ae (Lz w0 wr K c e0 i hlt df.o gV.o f_.o hlen HF.o);go_wp2_with fail
          refine HC.o.mono ?_;rintro e w2 ⟨rfl,hf,hx⟩;have mL:=ae (And.intro hf (And.intro (HX.o.trans hx) (And.intro (HB.o.but hx gQ) (HR.o.but hx Ff))));clear hf hx k0 k1 k2 k3 ri k4 k5 k6 k7;go_wp2_with fail
          exact ⟨⟨i+1,by omega,by rw [HS.o];exact mL.o.1,mL.o.2.1,mL.o.2.2.1,mL.o.2.2.2,by go_num⟩,by simp only [intOf];omega⟩
         ·have t1:(e0==0)=false:=by simpa using h0
          have HE:=ae (nW.o h0);clear h0;obtain ⟨k0,k1,k2,ri,k4,k5,k6,k7⟩:=ai.at HB.o;go_wp2_with fail
          go_meet
          exact ⟨by rw [MV.o,←HE.o];exact HF.o,HX.o,HB.o,HR.o⟩
        ·obtain rfl:i=c.aB.length:=by omega
         rw [←MV.o]at hF;have HF:=ae hF;have HX:=ae hX;have HB:=ae hB;have HR:=ae hR
         clear hne hF hX hB hR;obtain ⟨k0,k1,k2,ri,k4,k5,k6,k7⟩:=ai.at HB.o;go_wp2_with fail
         go_meet
         exact ⟨HF.o,HX.o,HB.o,HR.o⟩
     case rest=>
      obtain ⟨hF,hX,hB,hR⟩:=hcut;generalize wc=V5 at*;have HF:=ae hF;have HB:=ae hB;have HR:=ae hR
      have kV:=ae (kV.o.trans hX);have gV:=ae (hX.ext gV.o df.o)
      clear hF hX hB hR;obtain ⟨e6,he⟩: ∃e',e'=cZ (cg c.outs (xk c)) e5 c.outs.length:=⟨_,rfl⟩;have N9:=ae he;clear he
      go_upto_block 10 with fail
      go_cut [] (fun wx=>FE wx K e6∧ar K V5 wx∧aQ wx B 32 c.cells∧aQ wx R 52 [i64 0,i64 0,i64 0])
      case first=>
       as_aux_lemma=>
        go_wp2_with fail
        go_loopw [10] (fun ii wx=> ∃i:Nat,i≤c.outs.length∧FE wx K (cZ (cg c.outs (xk c)) e5 i)∧ar K V5 wx∧aQ wx B 32 c.cells∧aQ wx R 52 [i64 0,i64 0,i64 0]∧ii= .int .i64 i) (fun ii _=>c.outs.length-(intOf ii).toNat)
        case atStart=>exact ⟨0,Nat.zero_le _,HF.o,ar.refl _ _,HB.o,HR.o,rfl⟩
        case round=>
         obtain ⟨i,hi,hF,hX,hB,hR,rfl⟩:=hrel;have hne:=fun q=>ir (F:=cg c.outs (xk c)) (fun i e h=>dh (rf c) i e h) (e:=e5) (n:=c.outs.length) hi q;have k3:=hF.cell;have hlen:=lD.o.outs;by_cases hlt:i<c.outs.length
         ·have HS:=ae (ee (cg c.outs (xk c)) e5 i)
          rw [iT hlt]at HS;generalize cZ (cg c.outs (xk c)) e5 i=e0 at*;have HF:=ae hF;have HX:=ae hX;have HB:=ae hB;have HR:=ae hR;have nW:=ae hne
          have gV:=ae (hX.ext gV.o df.o);clear hF hX hB hR hne;by_cases h0:e0=0
          ·have t1:(e0==0)=true:=by simpa using h0
           clear h0;obtain ⟨k0,k1,k2,ri,k4,k5,k6,k7⟩:=ai.at HB.o;have HC:=ae (Dl w0 wr K c e0 i hlt df.o gV.o f_.o hlen lD.o.moves HF.o);go_wp2_with fail
           refine HC.o.mono ?_;rintro e w2 ⟨rfl,hf,hx⟩;have mL:=ae (And.intro hf (And.intro (HX.o.trans hx) (And.intro (HB.o.but hx gQ) (HR.o.but hx Ff))));clear hf hx k0 k1 k2 k3 ri k4 k5 k6 k7;go_wp2_with fail
           exact ⟨⟨i+1,by omega,by rw [HS.o];exact mL.o.1,mL.o.2.1,mL.o.2.2.1,mL.o.2.2.2,by go_num⟩,by simp only [intOf];omega⟩
          ·have t1:(e0==0)=false:=by simpa using h0
           have HE:=ae (nW.o h0);clear h0;obtain ⟨k0,k1,k2,ri,k4,k5,k6,k7⟩:=ai.at HB.o;go_wp2_with fail
           go_meet
           exact ⟨by rw [N9.o,←HE.o];exact HF.o,HX.o,HB.o,HR.o⟩
         ·obtain rfl:i=c.outs.length:=by omega
          rw [←N9.o]at hF;have HF:=ae hF;have HX:=ae hX;have HB:=ae hB;have HR:=ae hR
          clear hne hF hX hB hR;obtain ⟨k0,k1,k2,ri,k4,k5,k6,k7⟩:=ai.at HB.o;go_wp2_with fail
          go_meet
          exact ⟨HF.o,HX.o,HB.o,HR.o⟩
      case rest=>
       obtain ⟨hF,hX,hB,hR⟩:=hcut;generalize wc=V6 at*;have HF:=ae hF;have HB:=ae hB;have HR:=ae hR
       have kV:=ae (kV.o.trans hX);have gV:=ae (hX.ext gV.o df.o)
       clear hF hX hB hR;obtain ⟨e7,he⟩: ∃e',e'=cZ (mI c) e6 c.hours.toNat:=⟨_,rfl⟩;have N_:=ae he;clear he;have Ya:=gV
       have u_:e6=0→(1≤c.hours∧c.hours≤24)∧ ∀i (hi:i<c.lines.length),(0≤c.lines[i].cR∧c.lines[i].cR<c.aj.length)∧(0≤c.lines[i].kq∧c.lines[i].kq<c.aj.length):=fun h=>by
        rw [N9.o]at h;have h5:=(iu (fun i e h=>dh (rf c) i e h) h).1;rw [MV.o]at h5;have h4:=(iu (fun i e h=>dh (q9 c) i e h) h5).1;rw [zl.o]at h4;have h3:=(iu (fun i e h=>dh (ni c) i e h) h4).1;rw [wX.o]at h3;have h2:=(iu (fun i e h=>dh (o7 c) i e h) h3).1;rw [zk.o]at h2;have h1:=tR (c:=c) h2;have h0:=h1.1;rw [wW.o]at h0;have hf:=(iu (fun i e h=>dh (qZ c) i e h) h0).1;rw [X8.o]at hf;exact ⟨Bt hf,h1.2⟩
       have HGD:=ae u_;clear u_
       go_upto_block 12 with fail
       go_cut [] (fun wx=>FE wx K e7∧ar K V6 wx∧aQ wx B 32 c.cells∧aQ wx R 52 [i64 0,i64 0,i64 0])
       case first=>
        as_aux_lemma=>
         go_wp2_with fail
         go_loopw [11] (fun ii wx=> ∃h:Nat,h≤c.hours.toNat∧FE wx K (cZ (mI c) e6 h)∧ar K V6 wx∧aQ wx B 32 c.cells∧aQ wx R 52 [i64 0,i64 0,i64 0]∧ii= .int .i64 h) (fun ii _=>c.hours.toNat-(intOf ii).toNat)
         case atStart=>exact ⟨0,Nat.zero_le _,HF.o,ar.refl _ _,HB.o,HR.o,rfl⟩
         case round=>
             obtain ⟨h,hh,hF,hX,hB,hR,rfl⟩:=hrel;have hne:=fun q=>ir (F:=mI c) (sZ c) (e:=e6) (n:=c.hours.toNat) hh q;have Yb:=ae (show h=c.hours.toNat→cZ (mI c) e6 h=e7 from fun q=>by rw [q,N_.o]);have hz:=fun q=>(iu (F:=mI c) (sZ c) (e:=e6) (n:=h) q).1;have k3:=hF.cell;have HS:=ae (ee (mI c) e6 h);generalize cZ (mI c) e6 h=e0 at*;have gV:=ae (hX.ext gV.o df.o);have qH:=ae hF;have zy:=ae hX;have Nf:=ae hB;have SP:=ae hR;have nW:=ae hne
             clear hF hX hB hR hne;by_cases h0:e0=0
             ·have t1:(e0==0)=true:=by simpa using h0
              obtain ⟨⟨g1,g2⟩,E5⟩:=HGD.o (hz h0);have KO:=ae E5;have Vi:=ae h0;clear hz E5 h0;by_cases hlt:h<c.hours.toNat
              ·have th:decide ((h:Int)<c.hours)=true:=by simp;omega
               obtain ⟨k0,k1,k2,ri,k4,k5,k6,k7⟩:=ai.at Nf.o;have HP:=ae (Gh w0 wr c (h:Int) gV.o f_.o lD.o.lines);go_wp2_with fail
               refine HP.o.mono ?_;rintro e w2 ⟨pa,pc,at',Yc,rfl,wL,hat,x2,hfp,Qx⟩;rw [(vC KO.o (h:Int)).2]at wL;have SQ:=(vC KO.o (h:Int)).1;have OT:=vD c (h:Int);have hEl:(jW c (h:Int)).length≤1000000:=by rw [OT];exact Nat.le_trans (iQ _ _ _) lD.o.lines
               have jE:=iQ c (h:Int) c.lines.length;have IE:=lD.o.lines;have HFH:Hid (mI c h e0=cZ (cg c.outs fun x _ e=>nd e (!kC c h x) 13) e0 c.outs.length):=rfl;have XX:Hid (∀x,kC c h x=Ja c.aj.length (jW c h) (dE (fH (cX c h c.lines.length) x.lines (cX c h c.lines.length).length))):=fun _=>rfl;obtain ⟨Fo,Yd⟩: ∃Fo,Fo=(fun(x:aY) (_:Nat) (e:Int)=>nd e (!kC c h x) 13):=⟨_,rfl⟩;have HFo:Hid (∀x i e,Fo x i e=nd e (!kC c h x) 13):=fun x i e=>by rw [Yd]
               rw [←Yd]at HFH;clear Yd;have SR:=XX.o;generalize jW c (h:Int)=E at*;have Bx:=jL c (h:Int) c.lines.length;generalize cX c (h:Int) c.lines.length=l at*;have Ye:=ae OT;clear OT
               have Ar:=ae wL;have Qy:=ae hat;have HED:=ae SQ;have LD:=ae SR
               have Gf:=ae (qH.o.ext x2);have sI:=ae (Nf.o.ext x2);have xg:=ae (SP.o.ext x2);have ez:=ae (zy.o.trans (x2.but K))
               have KF:=qH.o.lt;have HPK:Hid (∀p,pa=some p→p.block≠K):=fun p hp=>by have:=hfp p hp;omega
               have Vo:Hid (∀p,at'=some p→p.block≠K):=fun p hp=>by have:=Qx p hp;omega
               have xc:=hat.le;have EP:=hat.cap
               rw [dB]at xc;clear SR wL hat SQ x2 hfp Qx k0 k1 k2 ri k4 k5 k6 k7 k3 HP qH zy Nf SP KO Bx KF;go_wp2_with fail
               go_loopw [14] (fun ii wx=> ∃i:Nat,i≤c.outs.length∧FE wx K (cZ (cg c.outs Fo) e0 i)∧ar K V6 wx∧aQ wx B 32 c.cells∧aQ wx R 52 [i64 0,i64 0,i64 0]∧bH wx 2 pa pc (eR E)∧aI wx at' Yc (dE l)∧ii= .int .i64 i) (fun ii _=>c.outs.length-(intOf ii).toNat)
               case atStart=>exact ⟨0,Nat.zero_le _,Gf.o,ez.o,sI.o,xg.o,Ar.o,Qy.o,rfl⟩
               case round=>
                obtain ⟨i,hi,hF,hX,hB,hR,wL,hat,rfl⟩:=hrel;clear Gf ez sI xg Ar Qy;have hlen:=lD.o.outs;by_cases hlt:i<c.outs.length
                ·have Yf:=ae (ee (cg c.outs Fo) e0 i)
                 rw [iT hlt,HFo.o]at Yf;have gV:=ae (hX.ext Ya.o df.o);obtain ⟨ob,oo,SS,-,o1,-,-⟩:=(f_.o.outs.ext gV.o).outs i hlt;have KP:=(f_.o.o c.outs[i] (List.getElem_mem hlt)).2.1
                 have aea:ob≠K:=by
                  obtain ⟨b3,o3,h3,q0,-⟩:=f_.o.outs.outs i hlt;rw [SS]at h3;cases h3
                  have:=cG q0;simp only at this;have:=df.o;omega
                 generalize cZ (cg c.outs Fo) e0 i=e1 at*;have SU:=ae (LD.o c.outs[i]);obtain ⟨x,uj⟩: ∃x,x=c.outs[i]:=⟨_,rfl⟩;rw [←uj]at o1 KP Yf SU;obtain ⟨-,-,k2,-,-,-,-,k7⟩:=ai.at hB;have HF:=ae hF;have HX:=ae hX;have HB:=ae hB;have HR:=ae hR;have Ar:=ae wL;have Qy:=ae hat
                 have Jg:=ae KP;have HOA:=ae SS
                 have jS:(0:Int)≤(i:Int):=by omega
                 have jI:(i:Int)<(c.outs.length:Int):=by omega
                 have O1:=ae o1;clear hF hX hB hR wL hat KP SS uj o1;obtain ⟨wo,OJ⟩: ∃wo:World,wo=wr:=⟨_,rfl⟩;subst OJ;go_wp2_with fail
                 go_loopw [15,16] (fun v kk wy=> ∃k:Nat,k≤l.length∧aJ wy wo.heap.size 3 1 v (gh (fH l x.lines k))∧Ext wo wy∧kk= .int .i64 k) (fun _ kk _=>l.length-(intOf kk).toNat)
                 case atStart=>exact ⟨0,Nat.zero_le _,aJ.nil _ _ _ _,Ext.refl _,rfl⟩
                 case round=>
                  obtain ⟨k,hk,hown,hE,rfl⟩:=hrel;have HO:=ae hown;clear hown k2 k7;by_cases hlk:k<l.length
                  ·obtain ⟨ab,ao,hab,i0⟩:=(Qy.o.ext hE).cell k (by rw [dB];exact hlk)
                   have Qi:(dE l)[k]'(by rw [dB];exact hlk)=((l[k]:Nat):Int):=by simp [dE]
                   rw [Qi]at i0
                   have HST:Hid (fH l x.lines (k+1)=if hasB x.lines ((l[k]:Nat):Int)=true then fH l x.lines k++ [k]else fH l x.lines k):=by
                        show _=_;have:l.getD k 0=l[k]:=by rw [List.getD_eq_getElem?_getD,List.getElem?_eq_getElem hlk];rfl
                        rw [←this];rfl
                   have Qh:=ae (pL l x.lines k);generalize fH l x.lines k=gs at*;obtain ⟨lk,SV⟩: ∃lk,lk=l[k]:=⟨_,rfl⟩;rw [←SV]at i0 HST;have Qj:=ae (fun U (hU:Ext wr U)=>za U x.la x.lc x.lines (lk:Int) (((Jg.o.ext gV.o).ext hE).ext hU));obtain ⟨-,-,-,-,-,-,-,k7⟩:=ai.at (HB.o.ext hE);have o1:=ak hE O1.o;have CY:(0:Int)≤(k:Int):=by omega
                   have CZ:(k:Int)<(l.length:Int):=by omega
                   have HE:=ae hE;have wJ:=hE.size
                   have Az:=ae hab;clear hE SV Qi hab;rw [Az.o];rcases Bool.eq_false_or_eq_true (hasB x.lines (lk:Int))with hq|hq
                   ·rw [hq]at Qj HST
                    clear hq
                    have HOW:Hid (wr.ownsRow wo.heap.size 3 1 u15 gs.length (gh gs).flatten):=by
                        have h5:=HO.o.own;rw [d_]at h5;exact h5
                    go_wp2_with fail
                    refine aL (fun w'=>w'.cell? ⟨B,7,none⟩=some (.slice c.oa c.outs.length c.oc)∧w'.cell? ⟨ob,oo+i*4+1,none⟩=some (.slice x.la x.lines.length x.lc)∧w'.cell? ⟨ab,ao+k,none⟩=some (i64 (lk:Int))) (fun w'=>True) (fun i=>false) (by kernel_rfl) (⟨ak (Ext.refl wr).drew k7,ak (Ext.refl wr).drew o1,ak (Ext.refl wr).drew i0⟩) (trivial) (fun ay ah=> ?_);refine aF 0 ay ah ?_;refine aF 1 ay ah ?_;refine aF 2 ay ah ?_ (v:= .int .i64 (i:Int));refine aF 3 ay ah ?_ (hy:=by rintro w ⟨e0,e1,e2⟩;have SS:=HOA.o;go_simp;try rfl);refine aF 4 ay ah ?_;refine aF 5 ay ah ?_;refine aF 6 ay ah ?_;refine aF 7 ay ah ?_ (v:= .int .i64 (k:Int));refine aF 8 ay ah ?_;refine aF 9 ay ah ?_ (v:=i64 (lk:Int));refine fp 10 rfl (fun Kc hK=> ?_);go_simp;refine (Qj.o wr.drew (Ext.refl wr).drew).mono ?_;rintro e w9 ⟨rfl,Ng⟩;rw [Ng];clear Ng;refine hK.o _ _ (⟨ak (Ext.refl wr).drew k7,ak (Ext.refl wr).drew o1,ak (Ext.refl wr).drew i0⟩) (trivial) (fun ay ah=> ?_);clear hK Kc;try simp only [sS]
                    refine aD (by kernel_rfl) ?_ _;clear ay ah;clear k7 o1 i0;go_wp2_with (at_builtin;refine bn _ rfl (.tmp 194) (.tmp 196) 22 rfl wo.heap.size 3 (.int .i64 0) 1 8 underlying22 Tryz.info_int rfl (by decide) u15 gs.length (gh gs).flatten rfl ?c1 (some ⟨wr.heap.size,0,none⟩) 1 1 [i64 (k:Int)] rfl rfl ?c2 ?c3 ?c4 ?c5 (by decide) ?c6 ?_;rotate_right;intro v1 w5 ho he hb hz hv)
                    case c1=>exact bW HOW.o ((Ext.refl _).drew.alloc _)
                    case c2=>exact fun _=>⟨_,rfl,dD wr.drew 3 [i64 (k:Int)]⟩
                    case c3=>intro u hu;rw [List.mem_singleton]at hu;subst hu;rfl
                    case c4=>intro e;cases e
                    case c5=>have:=Qh.o;omega
                    case c6=>exact Nat.le_trans wJ ((Ext.refl wr).drew.alloc _).size
                    have x5:Ext wo w5:=he.o wo (HE.o.drew.alloc _) (Nat.le_refl _);have kF:=HO.o.snoc (w':=w5) (v':=v1) (r:= [i64 (k:Int)]) rfl (by rw [d_];exact ho.o);rw [←mZ]at kF;exact ⟨⟨k+1,by omega,by rw [HST.o];simpa using kF,x5,by go_num⟩,by simp only [intOf];omega⟩
                   ·rw [hq]at Qj HST
                    clear hq;go_wp2_with fail
                    refine aL (fun w'=>w'.cell? ⟨B,7,none⟩=some (.slice c.oa c.outs.length c.oc)∧w'.cell? ⟨ob,oo+i*4+1,none⟩=some (.slice x.la x.lines.length x.lc)∧w'.cell? ⟨ab,ao+k,none⟩=some (i64 (lk:Int))) (fun w'=>True) (fun i=>false) (by kernel_rfl) (⟨ak (Ext.refl wr).drew k7,ak (Ext.refl wr).drew o1,ak (Ext.refl wr).drew i0⟩) (trivial) (fun ay ah=> ?_);refine aF 0 ay ah ?_;refine aF 1 ay ah ?_;refine aF 2 ay ah ?_ (v:= .int .i64 (i:Int));refine aF 3 ay ah ?_ (hy:=by rintro w ⟨e0,e1,e2⟩;have SS:=HOA.o;go_simp;try rfl);refine aF 4 ay ah ?_;refine aF 5 ay ah ?_;refine aF 6 ay ah ?_;refine aF 7 ay ah ?_ (v:= .int .i64 (k:Int));refine aF 8 ay ah ?_;refine aF 9 ay ah ?_ (v:=i64 (lk:Int));refine fp 10 rfl (fun Kc hK=> ?_);go_simp;refine (Qj.o wr.drew (Ext.refl wr).drew).mono ?_;rintro e w9 ⟨rfl,Ng⟩;rw [Ng];clear Ng;refine hK.o _ _ (⟨ak (Ext.refl wr).drew k7,ak (Ext.refl wr).drew o1,ak (Ext.refl wr).drew i0⟩) (trivial) (fun ay ah=> ?_);clear hK Kc;try simp only [sS]
                    refine aD (by kernel_rfl) ?_ _;clear ay ah;clear k7 o1 i0;go_wp2_with fail
                    exact ⟨⟨k+1,by omega,by rw [HST.o];simpa using HO.o.ext (Ext.refl wr).drew,HE.o.drew,by go_num⟩,by simp only [intOf];omega⟩
                  ·obtain rfl:k=l.length:=by omega
                   obtain ⟨ga,gc,rfl,hS,-⟩:=HO.o.recs (by decide);rw [d_,←dB (fH l x.lines l.length)];rw [m_]at hS;have hgI:=aI.ov hS (ow (sV l x.lines l.length) (by omega));have Yg:=xj wr c.aj.length pa pc E ga gc (dE (fH l x.lines l.length)) lD.o.aj hEl (Ar.o.ext hE) HED.o hgI;rw [Ye.o]at Yg;have HSC:=ae Yg;obtain ⟨-,-,k2,-,-,-,-,-⟩:=ai.at (HB.o.ext hE);have X9:=ae (HF.o.ext hE);have Vr:=ae (HB.o.ext hE);have tK:=ae (HR.o.ext hE);have kX:=ae (HX.o.trans (hE.but K));have Yh:=ae (Ar.o.ext hE);have Yi:=ae (Qy.o.ext hE)
                   clear hS hgI Yg hE HO HF HB HR HX Ar Qy;go_wp2_with fail
                   refine HSC.o.mono ?_;rintro e w6 ⟨rfl,x6⟩;rw [←SU.o];have Ay:=ae x6;clear x6 k2;go_wp2_with fail
                   refine (cP _ K _ _ _ _ _ _ (X9.o.ext Ay.o)).mono ?_;rintro e w7 ⟨rfl,hf,hx⟩;rw [←Yf.o]at hf;have mL:=ae (And.intro hf (And.intro ((kX.o.trans (Ay.o.but K)).trans hx) (And.intro ((Vr.o.ext Ay.o).but hx gQ) (And.intro ((tK.o.ext Ay.o).but hx Ff) (And.intro (bH.but (Yh.o.ext Ay.o) hx HPK.o) ((Yi.o.ext Ay.o).dC hx Vo.o))))));clear hf hx;go_wp2_with fail
                   exact ⟨⟨i+1,by omega,mL.o.1,mL.o.2.1,mL.o.2.2.1,mL.o.2.2.2.1,mL.o.2.2.2.2.1,mL.o.2.2.2.2.2,by go_num⟩,by simp only [intOf];omega⟩
                ·obtain rfl:i=c.outs.length:=by omega
                 obtain ⟨-,-,-,-,-,-,-,k7⟩:=ai.at hB;have mL:=ae (And.intro hF (And.intro hX (And.intro hB hR)));clear hF hX hB hR wL hat;go_wp2_with fail
                 exact ⟨⟨h+1,by omega,by rw [HS.o,HFH.o];exact mL.o.1,mL.o.2.1,mL.o.2.2.1,mL.o.2.2.2,by go_num⟩,by simp only [intOf];omega⟩
              ·have hq:=Yb.o (by omega)
               have HE:=ae hq;have th:decide ((h:Int)<c.hours)=false:=by simp;omega
               obtain ⟨k0,-⟩:=ai.at Nf.o;clear hq;go_wp2_with fail
               go_meet
               exact ⟨by rw [←HE.o];exact qH.o,zy.o,Nf.o,SP.o⟩
             ·have t1:(e0==0)=false:=by simpa using h0
              have HE:=ae (nW.o h0);clear h0 hz;obtain ⟨k0,-⟩:=ai.at Nf.o;rcases Bool.eq_false_or_eq_true (decide ((h:Int)<c.hours))with th|th
              ·go_wp2_with fail
               go_meet
               exact ⟨by rw [N_.o,←HE.o];exact qH.o,zy.o,Nf.o,SP.o⟩
              ·go_wp2_with fail
               go_meet
               exact ⟨by rw [N_.o,←HE.o];exact qH.o,zy.o,Nf.o,SP.o⟩
       case rest=>
        obtain ⟨hF,hX,hB,hR⟩:=hcut;generalize wc=V7 at*;have HF:=ae hF;have HB:=ae hB;have HR:=ae hR
        have kV:=ae (kV.o.trans hX);have gV:=ae (hX.ext gV.o df.o)
        have hce:e7=ce:=by
         rw [OS.o];unfold dW zB vA vx nk qd nj qc
         rw [←X8.o,←wW.o,←zk.o,←wX.o,←zl.o,←MV.o,←N9.o,←N_.o]
        rw [hce]at hF;obtain ⟨fk,fi,ff,Yj⟩:=hF;obtain ⟨c0,c1,c2,c3,-⟩:=EL Yj;have r0:V7.cell? ⟨R,0,none⟩=some (i64 0):=(hR.cell 0).trans rfl;have r1:V7.cell? ⟨R,1,none⟩=some (i64 0):=(hR.cell 1).trans rfl;have r2:V7.cell? ⟨R,2,none⟩=some (i64 0):=(hR.cell 2).trans rfl;have q0:V7.frozen? ⟨R,0,none⟩=false:=hR.frozen 0;have q1:V7.frozen? ⟨R,1,none⟩=false:=hR.frozen 1;have q2:V7.frozen? ⟨R,2,none⟩=false:=hR.frozen 2;have tk: ∀o,(⟨R,o,none⟩:Addr).block≠K:=fun o=>Ff;have Jq:=ae (((hR.set 0 (i64 fk)).set 1 (i64 fi)).set 2 (i64 ff));have X4:Hid (MO (((V7.setCell ⟨R,0,none⟩ (i64 fk)).setCell ⟨R,1,none⟩ (i64 fi)).setCell ⟨R,2,none⟩ (i64 ff)) K ⟨fk,fi,ff,ce⟩):=((Yj.other _ _ (tk 0)).other _ _ (tk 1)).other _ _ (tk 2);obtain ⟨d0,d1,d2,d3,-⟩:=EL X4.o;obtain ⟨s0,s1,s2⟩:(((V7.setCell ⟨R,0,none⟩ (i64 fk)).setCell ⟨R,1,none⟩ (i64 fi)).setCell ⟨R,2,none⟩ (i64 ff)).drew.cell? ⟨R,0,none⟩=some (i64 fk)∧(((V7.setCell ⟨R,0,none⟩ (i64 fk)).setCell ⟨R,1,none⟩ (i64 fi)).setCell ⟨R,2,none⟩ (i64 ff)).drew.cell? ⟨R,1,none⟩=some (i64 fi)∧(((V7.setCell ⟨R,0,none⟩ (i64 fk)).setCell ⟨R,1,none⟩ (i64 fi)).setCell ⟨R,2,none⟩ (i64 ff)).drew.cell? ⟨R,2,none⟩=some (i64 ff):=⟨(Jq.o.cell 0).trans rfl,(Jq.o.cell 1).trans rfl,(Jq.o.cell 2).trans rfl⟩;have vu:Hid (Ext w0 (((V7.setCell ⟨R,0,none⟩ (i64 fk)).setCell ⟨R,1,none⟩ (i64 fi)).setCell ⟨R,2,none⟩ (i64 ff)).drew):=(((gV.o.setCell (p:=⟨R,0,none⟩) KQ.o _).setCell (p:=⟨R,1,none⟩) KQ.o _).setCell (p:=⟨R,2,none⟩) KQ.o _).drew;clear hX hB hR Yj hce tk;go_wp2_with fail
        refine aL (fun w'=>w'.cell? ⟨K,0,none⟩=some (i64 fk)∧w'.cell? ⟨K,1,none⟩=some (i64 fi)∧w'.cell? ⟨K,2,none⟩=some (i64 ff)∧w'.cell? ⟨K,3,none⟩=some (i64 ce)) (fun w'=>True) (fun i=>false) (by kernel_rfl) (⟨c0,c1,c2,c3⟩) (trivial) (fun ay ah=> ?_);refine aF 0 ay ah ?_;refine aF 1 ay ah ?_;refine aF 2 ay ah ?_;refine aF 3 ay ah ?_ (v:= .agg #[i64 fk,i64 fi,i64 ff]);refine aF 4 ay ah ?_;refine aF 5 ay ah ?_;refine aF 6 ay ah ?_;refine aF 7 ay ah ?_ (v:=i64 ce);refine fp 8 rfl (fun Kc hK=> ?_);go_simp;refine hK.o _ _ (⟨d0,d1,d2,d3⟩) (trivial) (fun ay ah=> ?_);clear hK Kc;try simp only [sS]
        refine aF 9 ay ah ?_ (v:=i64 ce);refine aD (by kernel_rfl) ?_ _;clear ay ah;go_wp2_with fail
        exact bodyPost_ret (v:= .tuple #[.agg #[i64 fk,i64 fi,i64 ff],i64 ce]) (by simp [results,results21,go_sem,s0,s1,s2]) rfl ⟨fk,fi,ff,rfl,vu.o⟩
end Go.Proofs.YtkpngkdgphojlaaGreat
