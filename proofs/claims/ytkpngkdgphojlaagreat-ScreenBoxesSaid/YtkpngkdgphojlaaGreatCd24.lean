/- Texts of the proof. -/
import Derived.Test.YtkpngkdgphojlaaGreatCd15
set_option linter.all false
set_option maxHeartbeats 4000000
set_option maxRecDepth 100000
namespace Go.Proofs.YtkpngkdgphojlaaGreat
open Go.Proofs.Tryz
open Go.RowKit
theorem xZ (w0:World) (c:ai) (hc:aS w0 c) (hl:oW c):
 Calls prog 21 #[.agg (C8 c)] w0 fun e w'=> ∃k i f,e= .returned (.tuple #[.agg #[i64 k,i64 i,i64 f],i64 (cV c)])∧Ext w0 w':=by
 try unfold C8
 have et:=ae hc;have qL:=ae hl
 obtain ⟨ce,hce⟩: ∃ce,ce=cV c:=⟨_,rfl⟩;rw [←hce];have Cy:=ae hce;clear hce;clear hc hl;go_enter func21,ntmps21
 go_upto_region 1 with fail
 obtain ⟨W0,hW,x0,Z0,A0,A1⟩:=fu w0 32 c.cells 52 [i64 0,i64 0,i64 0];rw [show(w0.alloc (.cells (C8 c) 32)).alloc (.cells #[i64 0,i64 0,i64 0] 52)=W0 from hW.symm];clear hW;go_upto_region 2 with fail
 obtain ⟨W1,hW,x1,Z1,A2⟩:=aH W0 101 [i64 0,i64 0,i64 0,i64 0];rw [show W0.alloc (.cells #[i64 0,i64 0,i64 0,i64 0] 101)=W1 from hW.symm];clear hW;have z0:=Z0.o;obtain ⟨B,hB⟩: ∃B,B=w0.heap.size:=⟨_,rfl⟩;obtain ⟨R,hR⟩: ∃R,R=w0.heap.size+1:=⟨_,rfl⟩;obtain ⟨K,hK⟩: ∃K,K=W0.heap.size:=⟨_,rfl⟩;rw [←hR]at A1⊢;rw [←hB]at A0⊢;rw [←hK]at A2⊢;have fP:B≠K:=by omega
 have EI:R≠K:=by omega
 have cX:Hid (w0.heap.size≤K):=by show _≤_;omega
 have HF:Hid (FE W1 K 0):=⟨0,0,0,A2⟩;have HB:=ae (A0.ext x1);have HR:=ae (A1.ext x1)
 have fS:=ae (x0.trans x1);have kO:Hid (ar K W1 W1):=ar.refl _ _;have Kq:Hid (w0.heap.size≤R):=by show _≤_;omega
 obtain ⟨ef,he⟩: ∃e',e'=iT c 0:=⟨_,rfl⟩;have XA:=ae he;clear he A0 A1 A2 x0 x1 Z0 Z1 z0 hB hR hK;obtain ⟨k0,k1,k2,k3,k4,k5,k6,k7⟩:=ai.at HB.o;go_wp2_with fail
 refine (Fw w0 W1 K c 0 cX.o fS.o et.o qL.o HF.o).mono ?_;rintro e W2 ⟨rfl,hf,hx⟩;rw [←XA.o]at hf;have HF:=ae hf;have HB:=ae (HB.o.but hx fP);have HR:=ae (HR.o.but hx EI)
 have kO:=ae (kO.o.trans hx);have fS:=ae (hx.ext fS.o cX.o)
 clear hf hx k0 k1 k2 k3 k4 k5 k6 k7;obtain ⟨e1,he⟩: ∃e',e'=cK (bM c.ak (rj c)) ef c.ak.length:=⟨_,rfl⟩;have yL:=ae he;clear he
 go_upto_block 0 with fail
 go_cut [] (fun wx=>FE wx K e1∧ar K W2 wx∧aJ wx B 32 c.cells∧aJ wx R 52 [i64 0,i64 0,i64 0])
 case first=>
  as_aux_lemma=>
   go_wp2_with fail
   go_loopw [5] (fun ii wx=> ∃i:Nat,i≤c.ak.length∧FE wx K (cK (bM c.ak (rj c)) ef i)∧ar K W2 wx∧aJ wx B 32 c.cells∧aJ wx R 52 [i64 0,i64 0,i64 0]∧ii= .int .i64 i) (fun ii _=>c.ak.length-(intOf ii).toNat)
   case atStart=>exact ⟨0,Nat.zero_le _,HF.o,ar.refl _ _,HB.o,HR.o,rfl⟩
   case round=>
    obtain ⟨i,hi,hF,hX,hB,hR,rfl⟩:=hrel;have hne:=fun q=>gu (F:=bM c.ak (rj c)) (fun i e h=>cP (pU c) i e h) (e:=ef) (n:=c.ak.length) hi q;have k3:=hF.cell;have hlen:=qL.o.ak;by_cases hlt:i<c.ak.length
    ·have HS:=ae (dC (bM c.ak (rj c)) ef i)
     rw [ie hlt]at HS;generalize cK (bM c.ak (rj c)) ef i=e0 at*;have HF:=ae hF;have HX:=ae hX;have HB:=ae hB;have HR:=ae hR;have jV:=ae hne
     have fS:=ae (hX.ext fS.o cX.o);clear hF hX hB hR hne;by_cases h0:e0=0
     ·have t1:(e0==0)=true:=by simpa using h0
      clear h0;obtain ⟨bb,bo,ha,b0,b1,b2⟩:=(et.o.ak.ext fS.o).ak i hlt;have PX:=et.o.bus c.ak[i] (List.getElem_mem hlt);have kN:Hid (∃h:i<(c.ak.map cA.name).length,(c.ak.map cA.name)[i]=c.ak[i].name∧(c.ak.map cA.name).take i=(c.ak.take i).map cA.name):=⟨by simpa using hlt,by simp,by rw [List.map_take]⟩;have uF:Hid ((c.ak.map cA.name).length≤1000000):=by(show _≤_;rw [List.length_map];exact hlen)
      obtain ⟨prev,CN⟩: ∃prev,prev=(c.ak.take i).map cA.name:=⟨_,rfl⟩;have HS:Hid (cK (bM c.ak (rj c)) ef (i+1)=sB c c.ak[i] ((c.ak.take i).map cA.name) e0):=HS.o;rw [←CN]at HS kN;obtain ⟨x,jc⟩: ∃x,x=c.ak[i]:=⟨_,rfl⟩;rw [←jc]at b0 b1 b2 PX HS kN;have qK:=ae ha;have iz:=ae PX;have py:=ae jc
      have f_:(0:Int)≤(i:Int):=by omega
      have fU:(i:Int)<(c.ak.length:Int):=by omega
      clear ha PX CN jc;obtain ⟨k0,k1,k2,qg,k4,k5,k6,k7⟩:=ai.at HB.o;have HC:=ae (k9 w0 wr K c e0 1 i prev _ x.name (oC c) (by decide) kN.o uF.o cX.o fS.o et.o iz.o.1 HF.o);go_wp2_with fail
      refine HC.o.mono ?_;rintro e w2 ⟨rfl,hf,hx⟩;have CT:=ae hf;have fg:=ae (HX.o.trans hx);have q9:=ae (HB.o.but hx fP);have tU:=ae (HR.o.but hx EI)
      have Li:=ae (hx.ext fS.o cX.o);clear b0 b1 b2 hf hx k0 k1 k2 k3 qg k4 k5 k6 k7 HC;obtain ⟨bb',bo',ha,b0,b1,b2⟩:=(et.o.ak.ext Li.o).ak i hlt;rw [qK.o]at ha;cases ha
      rw [←show x=c.ak[i]from py.o]at b0 b1 b2;clear b0;obtain ⟨k0,k1,k2,qg,k4,k5,k6,k7⟩:=ai.at q9.o
      have KL:bb≠K:=by
       obtain ⟨b3,o3,h3,q0,-⟩:=et.o.ak.ak i hlt;rw [qK.o]at h3;cases h3
       have:=bm q0;simp only at this;have:=cX.o;omega
      have HH:=ae (fun U (hU:Ext w0 U) (hF:FE U K (gP e0 x.name prev))=>oU w0 U K c (gP e0 x.name prev) x.da x.dc x.bP 0 1048576 1 i 1 cX.o hU iz.o.2.1 hF);go_wp2_with fail
      refine aB (fun w'=>w'.cell? ⟨B,0,none⟩=some (i64 c.hours)∧w'.cell? ⟨B,1,none⟩=some (.slice c.ra c.aV.length c.rc)∧w'.cell? ⟨B,2,none⟩=some (.slice c.ba c.ak.length c.bc)∧w'.cell? ⟨B,3,none⟩=some (.slice c.la c.lines.length c.lc)∧w'.cell? ⟨B,4,none⟩=some (.slice c.ua c.au.length c.uc)∧w'.cell? ⟨B,5,none⟩=some (.slice c.sa c.stores.length c.sc)∧w'.cell? ⟨B,6,none⟩=some (.slice c.ta c.aL.length c.tc)∧w'.cell? ⟨B,7,none⟩=some (.slice c.oa c.outs.length c.oc)∧w'.cell? ⟨bb,bo+i*3+1,none⟩=some (.slice x.da x.bP.length x.dc)) (fun w'=>True) (fun i=>false) (by kernel_rfl) (⟨k0,k1,k2,qg,k4,k5,k6,k7,b1⟩) (trivial) (fun aq ah=> ?_);refine ay 0 aq ah ?_;refine ay 1 aq ah ?_ (v:= .agg (C8 c));refine ay 2 aq ah ?_;refine ay 3 aq ah ?_;refine ay 4 aq ah ?_ (v:= .int .i64 (i:Int));refine ay 5 aq ah ?_ (hy:=by rintro w ⟨e0,e1,e2,e3,e4,e5,e6,e7,e8⟩;have ha:=qK.o;go_simp;try rfl);refine ay 6 aq ah ?_;refine ay 7 aq ah ?_;refine ay 8 aq ah ?_ (v:= .int .i64 (i:Int));refine dX 9 rfl (fun Kc hK=> ?_);go_simp;refine (HH.o w2.drew (Li.o.trans (Ext.refl w2).drew) (CT.o.ext (Ext.refl w2).drew)).mono ?_;rintro e W5 ⟨rfl,Hl,eY⟩;refine hK.o _ _ (⟨bL (aj (Ext.refl w2).drew k0) eY fP,bL (aj (Ext.refl w2).drew k1) eY fP,bL (aj (Ext.refl w2).drew k2) eY fP,bL (aj (Ext.refl w2).drew qg) eY fP,bL (aj (Ext.refl w2).drew k4) eY fP,bL (aj (Ext.refl w2).drew k5) eY fP,bL (aj (Ext.refl w2).drew k6) eY fP,bL (aj (Ext.refl w2).drew k7) eY fP,bL (aj (Ext.refl w2).drew b1) eY KL⟩) (trivial) (fun aq ah=> ?_);clear hK Kc;try simp only [sS]
      refine ax (by kernel_rfl) ?_ _;clear aq ah;clear k0 k1 k2 qg k4 k5 k6 k7 b1 b2 CT HH;have XB:=ae Hl;have mS:=ae (fg.o.trans (((Ext.refl w2).drew.but K).trans eY));have UR:Hid (aJ W5 B 32 c.cells):=(q9.o.ext (Ext.refl w2).drew).but eY fP
      have sq:Hid (aJ W5 R 52 [i64 0,i64 0,i64 0]):=(tU.o.ext (Ext.refl w2).drew).but eY EI;have XC:=ae (eY.ext (Li.o.trans (Ext.refl w2).drew) cX.o);clear Hl eY fg q9 tU Li;obtain ⟨-,-,k2,-,-,-,-,-⟩:=ai.at UR.o;obtain ⟨bb',bo',ha,-,-,b2⟩:=(et.o.ak.ext XC.o).ak i hlt;rw [qK.o]at ha;cases ha
      rw [←show x=c.ak[i]from py.o]at b2;rw [qK.o]at k2;go_wp2_with fail
      refine (yD W5 x.gC 0 1048576 iz.o.2.2).mono ?_;rintro e w1 ⟨rfl,rfl⟩;go_wp2_with fail
      refine (cf _ K _ _ _ _ _ _ (XB.o.alloc _)).mono ?_;rintro e W6 ⟨rfl,hf,hx⟩;have ly:=ae (And.intro hf (And.intro ((mS.o.alloc' _).trans hx) (And.intro ((UR.o.alloc' _).but hx fP) ((sq.o.alloc' _).but hx EI))));clear hf hx k2 b2;go_wp2_with fail
      exact ⟨⟨i+1,by omega,by rw [HS.o];exact ly.o.1,ly.o.2.1,ly.o.2.2.1,ly.o.2.2.2,by go_num⟩,by simp only [intOf];omega⟩
     ·have t1:(e0==0)=false:=by simpa using h0
      have HE:=ae (jV.o h0);clear h0;obtain ⟨k0,k1,k2,qg,k4,k5,k6,k7⟩:=ai.at HB.o;go_wp2_with fail
      go_meet
      exact ⟨by rw [yL.o,←HE.o];exact HF.o,HX.o,HB.o,HR.o⟩
    ·obtain rfl:i=c.ak.length:=by omega
     rw [←yL.o]at hF;have HF:=ae hF;have HX:=ae hX;have HB:=ae hB;have HR:=ae hR
     clear hne hF hX hB hR;obtain ⟨k0,k1,k2,qg,k4,k5,k6,k7⟩:=ai.at HB.o;go_wp2_with fail
     go_meet
     exact ⟨HF.o,HX.o,HB.o,HR.o⟩
 case rest=>
  obtain ⟨hF,hX,hB,hR⟩:=hcut;generalize wc=V1 at*;have HF:=ae hF;have HB:=ae hB;have HR:=ae hR
  have kO:=ae (kO.o.trans hX);have fS:=ae (hX.ext fS.o cX.o)
  clear hF hX hB hR;obtain ⟨e2,he⟩: ∃e',e'=cK (bM c.lines (mM c)) e1 c.lines.length:=⟨_,rfl⟩;have wE:=ae he;clear he
  go_upto_block 2 with fail
  go_cut [] (fun wx=>FE wx K e2∧ar K V1 wx∧aJ wx B 32 c.cells∧aJ wx R 52 [i64 0,i64 0,i64 0])
  case first=>
   as_aux_lemma=>
    go_wp2_with fail
    go_loopw [6] (fun ii wx=> ∃i:Nat,i≤c.lines.length∧FE wx K (cK (bM c.lines (mM c)) e1 i)∧ar K V1 wx∧aJ wx B 32 c.cells∧aJ wx R 52 [i64 0,i64 0,i64 0]∧ii= .int .i64 i) (fun ii _=>c.lines.length-(intOf ii).toNat)
    case atStart=>exact ⟨0,Nat.zero_le _,HF.o,ar.refl _ _,HB.o,HR.o,rfl⟩
    case round=>
     obtain ⟨i,hi,hF,hX,hB,hR,rfl⟩:=hrel;have hne:=fun q=>gu (F:=bM c.lines (mM c)) (fun i e h=>cP (rk c) i e h) (e:=e1) (n:=c.lines.length) hi q;have k3:=hF.cell;have hlen:=qL.o.lines;by_cases hlt:i<c.lines.length
     ·have HS:=ae (dC (bM c.lines (mM c)) e1 i)
      rw [ie hlt]at HS;generalize cK (bM c.lines (mM c)) e1 i=e0 at*;have HF:=ae hF;have HX:=ae hX;have HB:=ae hB;have HR:=ae hR;have jV:=ae hne
      have fS:=ae (hX.ext fS.o cX.o);clear hF hX hB hR hne;by_cases h0:e0=0
      ·have t1:(e0==0)=true:=by simpa using h0
       clear h0;obtain ⟨k0,k1,k2,qg,k4,k5,k6,k7⟩:=ai.at HB.o;have HC:=ae (Hn w0 wr K c e0 i hlt cX.o fS.o et.o hlen HF.o);go_wp2_with fail
       refine HC.o.mono ?_;rintro e w2 ⟨rfl,hf,hx⟩;have ly:=ae (And.intro hf (And.intro (HX.o.trans hx) (And.intro (HB.o.but hx fP) (HR.o.but hx EI))));clear hf hx k0 k1 k2 k3 qg k4 k5 k6 k7;go_wp2_with fail
       exact ⟨⟨i+1,by omega,by rw [HS.o];exact ly.o.1,ly.o.2.1,ly.o.2.2.1,ly.o.2.2.2,by go_num⟩,by simp only [intOf];omega⟩
      ·have t1:(e0==0)=false:=by simpa using h0
       have HE:=ae (jV.o h0);clear h0;obtain ⟨k0,k1,k2,qg,k4,k5,k6,k7⟩:=ai.at HB.o;go_wp2_with fail
       go_meet
       exact ⟨by rw [wE.o,←HE.o];exact HF.o,HX.o,HB.o,HR.o⟩
     ·obtain rfl:i=c.lines.length:=by omega
      rw [←wE.o]at hF;have HF:=ae hF;have HX:=ae hX;have HB:=ae hB;have HR:=ae hR
      clear hne hF hX hB hR;obtain ⟨k0,k1,k2,qg,k4,k5,k6,k7⟩:=ai.at HB.o;go_wp2_with fail
      go_meet
      exact ⟨HF.o,HX.o,HB.o,HR.o⟩
  case rest=>
   obtain ⟨hF,hX,hB,hR⟩:=hcut;generalize wc=V2 at*;have HF:=ae hF;have HB:=ae hB;have HR:=ae hR
   have kO:=ae (kO.o.trans hX);have fS:=ae (hX.ext fS.o cX.o)
   clear hF hX hB hR;obtain ⟨e3,he⟩: ∃e',e'=cK (bM c.au (mN c)) e2 c.au.length:=⟨_,rfl⟩;have yM:=ae he;clear he
   go_upto_block 4 with fail
   go_cut [] (fun wx=>FE wx K e3∧ar K V2 wx∧aJ wx B 32 c.cells∧aJ wx R 52 [i64 0,i64 0,i64 0])
   case first=>
    as_aux_lemma=>
     go_wp2_with fail
     go_loopw [7] (fun ii wx=> ∃i:Nat,i≤c.au.length∧FE wx K (cK (bM c.au (mN c)) e2 i)∧ar K V2 wx∧aJ wx B 32 c.cells∧aJ wx R 52 [i64 0,i64 0,i64 0]∧ii= .int .i64 i) (fun ii _=>c.au.length-(intOf ii).toNat)
     case atStart=>exact ⟨0,Nat.zero_le _,HF.o,ar.refl _ _,HB.o,HR.o,rfl⟩
     case round=>
      obtain ⟨i,hi,hF,hX,hB,hR,rfl⟩:=hrel;have hne:=fun q=>gu (F:=bM c.au (mN c)) (fun i e h=>cP (nV c) i e h) (e:=e2) (n:=c.au.length) hi q;have k3:=hF.cell;have hlen:=qL.o.au;by_cases hlt:i<c.au.length
      ·have HS:=ae (dC (bM c.au (mN c)) e2 i)
       rw [ie hlt]at HS;generalize cK (bM c.au (mN c)) e2 i=e0 at*;have HF:=ae hF;have HX:=ae hX;have HB:=ae hB;have HR:=ae hR;have jV:=ae hne
       have fS:=ae (hX.ext fS.o cX.o);clear hF hX hB hR hne;by_cases h0:e0=0
       ·have t1:(e0==0)=true:=by simpa using h0
        clear h0;obtain ⟨k0,k1,k2,qg,k4,k5,k6,k7⟩:=ai.at HB.o;have HC:=ae (Hv w0 wr K c e0 i hlt cX.o fS.o et.o hlen HF.o);go_wp2_with fail
        refine HC.o.mono ?_;rintro e w2 ⟨rfl,hf,hx⟩;have ly:=ae (And.intro hf (And.intro (HX.o.trans hx) (And.intro (HB.o.but hx fP) (HR.o.but hx EI))));clear hf hx k0 k1 k2 k3 qg k4 k5 k6 k7;go_wp2_with fail
        exact ⟨⟨i+1,by omega,by rw [HS.o];exact ly.o.1,ly.o.2.1,ly.o.2.2.1,ly.o.2.2.2,by go_num⟩,by simp only [intOf];omega⟩
       ·have t1:(e0==0)=false:=by simpa using h0
        have HE:=ae (jV.o h0);clear h0;obtain ⟨k0,k1,k2,qg,k4,k5,k6,k7⟩:=ai.at HB.o;go_wp2_with fail
        go_meet
        exact ⟨by rw [yM.o,←HE.o];exact HF.o,HX.o,HB.o,HR.o⟩
      ·obtain rfl:i=c.au.length:=by omega
       rw [←yM.o]at hF;have HF:=ae hF;have HX:=ae hX;have HB:=ae hB;have HR:=ae hR
       clear hne hF hX hB hR;obtain ⟨k0,k1,k2,qg,k4,k5,k6,k7⟩:=ai.at HB.o;go_wp2_with fail
       go_meet
       exact ⟨HF.o,HX.o,HB.o,HR.o⟩
   case rest=>
    obtain ⟨hF,hX,hB,hR⟩:=hcut;generalize wc=V3 at*;have HF:=ae hF;have HB:=ae hB;have HR:=ae hR
    have kO:=ae (kO.o.trans hX);have fS:=ae (hX.ext fS.o cX.o)
    clear hF hX hB hR;obtain ⟨e4,he⟩: ∃e',e'=cK (bM c.stores (jH c)) e3 c.stores.length:=⟨_,rfl⟩;have uG:=ae he;clear he
    go_upto_block 6 with fail
    go_cut [] (fun wx=>FE wx K e4∧ar K V3 wx∧aJ wx B 32 c.cells∧aJ wx R 52 [i64 0,i64 0,i64 0])
    case first=>
     as_aux_lemma=>
      go_wp2_with fail
      go_loopw [8] (fun ii wx=> ∃i:Nat,i≤c.stores.length∧FE wx K (cK (bM c.stores (jH c)) e3 i)∧ar K V3 wx∧aJ wx B 32 c.cells∧aJ wx R 52 [i64 0,i64 0,i64 0]∧ii= .int .i64 i) (fun ii _=>c.stores.length-(intOf ii).toNat)
      case atStart=>exact ⟨0,Nat.zero_le _,HF.o,ar.refl _ _,HB.o,HR.o,rfl⟩
      case round=>
       obtain ⟨i,hi,hF,hX,hB,hR,rfl⟩:=hrel;have hne:=fun q=>gu (F:=bM c.stores (jH c)) (fun i e h=>cP (l9 c) i e h) (e:=e3) (n:=c.stores.length) hi q;have k3:=hF.cell;have hlen:=qL.o.stores;by_cases hlt:i<c.stores.length
       ·have HS:=ae (dC (bM c.stores (jH c)) e3 i)
        rw [ie hlt]at HS;generalize cK (bM c.stores (jH c)) e3 i=e0 at*;have HF:=ae hF;have HX:=ae hX;have HB:=ae hB;have HR:=ae hR;have jV:=ae hne
        have fS:=ae (hX.ext fS.o cX.o);clear hF hX hB hR hne;by_cases h0:e0=0
        ·have t1:(e0==0)=true:=by simpa using h0
         clear h0;obtain ⟨k0,k1,k2,qg,k4,k5,k6,k7⟩:=ai.at HB.o;have HC:=ae (Fq w0 wr K c e0 i hlt cX.o fS.o et.o hlen HF.o);go_wp2_with fail
         refine HC.o.mono ?_;rintro e w2 ⟨rfl,hf,hx⟩;have ly:=ae (And.intro hf (And.intro (HX.o.trans hx) (And.intro (HB.o.but hx fP) (HR.o.but hx EI))));clear hf hx k0 k1 k2 k3 qg k4 k5 k6 k7;go_wp2_with fail
         exact ⟨⟨i+1,by omega,by rw [HS.o];exact ly.o.1,ly.o.2.1,ly.o.2.2.1,ly.o.2.2.2,by go_num⟩,by simp only [intOf];omega⟩
        ·have t1:(e0==0)=false:=by simpa using h0
         have HE:=ae (jV.o h0);clear h0;obtain ⟨k0,k1,k2,qg,k4,k5,k6,k7⟩:=ai.at HB.o;go_wp2_with fail
         go_meet
         exact ⟨by rw [uG.o,←HE.o];exact HF.o,HX.o,HB.o,HR.o⟩
       ·obtain rfl:i=c.stores.length:=by omega
        rw [←uG.o]at hF;have HF:=ae hF;have HX:=ae hX;have HB:=ae hB;have HR:=ae hR
        clear hne hF hX hB hR;obtain ⟨k0,k1,k2,qg,k4,k5,k6,k7⟩:=ai.at HB.o;go_wp2_with fail
        go_meet
        exact ⟨HF.o,HX.o,HB.o,HR.o⟩
    case rest=>
     obtain ⟨hF,hX,hB,hR⟩:=hcut;generalize wc=V4 at*;have HF:=ae hF;have HB:=ae hB;have HR:=ae hR
     have kO:=ae (kO.o.trans hX);have fS:=ae (hX.ext fS.o cX.o)
     clear hF hX hB hR;obtain ⟨e5,he⟩: ∃e',e'=cK (bM c.aL (tE c)) e4 c.aL.length:=⟨_,rfl⟩;have Ml:=ae he;clear he
     go_upto_block 8 with fail
     go_cut [] (fun wx=>FE wx K e5∧ar K V4 wx∧aJ wx B 32 c.cells∧aJ wx R 52 [i64 0,i64 0,i64 0])
     case first=>
      as_aux_lemma=>
       go_wp2_with fail
       go_loopw [9] (fun ii wx=> ∃i:Nat,i≤c.aL.length∧FE wx K (cK (bM c.aL (tE c)) e4 i)∧ar K V4 wx∧aJ wx B 32 c.cells∧aJ wx R 52 [i64 0,i64 0,i64 0]∧ii= .int .i64 i) (fun ii _=>c.aL.length-(intOf ii).toNat)
       case atStart=>exact ⟨0,Nat.zero_le _,HF.o,ar.refl _ _,HB.o,HR.o,rfl⟩
       case round=>
        obtain ⟨i,hi,hF,hX,hB,hR,rfl⟩:=hrel;have hne:=fun q=>gu (F:=bM c.aL (tE c)) (fun i e h=>cP (pV c) i e h) (e:=e4) (n:=c.aL.length) hi q;have k3:=hF.cell;have hlen:=qL.o.aL;by_cases hlt:i<c.aL.length
        ·have HS:=ae (dC (bM c.aL (tE c)) e4 i)
         rw [ie hlt]at HS;generalize cK (bM c.aL (tE c)) e4 i=e0 at*;have HF:=ae hF;have HX:=ae hX;have HB:=ae hB;have HR:=ae hR;have jV:=ae hne
         have fS:=ae (hX.ext fS.o cX.o);clear hF hX hB hR hne;by_cases h0:e0=0
         ·have t1:(e0==0)=true:=by simpa using h0
          clear h0;obtain ⟨k0,k1,k2,qg,k4,k5,k6,k7⟩:=ai.at HB.o;have HC:=ae (KN w0 wr K c e0 i hlt cX.o fS.o et.o hlen HF.o);go_wp2_with fail
          refine HC.o.mono ?_;rintro e w2 ⟨rfl,hf,hx⟩;have ly:=ae (And.intro hf (And.intro (HX.o.trans hx) (And.intro (HB.o.but hx fP) (HR.o.but hx EI))));clear hf hx k0 k1 k2 k3 qg k4 k5 k6 k7;go_wp2_with fail
          exact ⟨⟨i+1,by omega,by rw [HS.o];exact ly.o.1,ly.o.2.1,ly.o.2.2.1,ly.o.2.2.2,by go_num⟩,by simp only [intOf];omega⟩
         ·have t1:(e0==0)=false:=by simpa using h0
          have HE:=ae (jV.o h0);clear h0;obtain ⟨k0,k1,k2,qg,k4,k5,k6,k7⟩:=ai.at HB.o;go_wp2_with fail
          go_meet
          exact ⟨by rw [Ml.o,←HE.o];exact HF.o,HX.o,HB.o,HR.o⟩
        ·obtain rfl:i=c.aL.length:=by omega
         rw [←Ml.o]at hF;have HF:=ae hF;have HX:=ae hX;have HB:=ae hB;have HR:=ae hR
         clear hne hF hX hB hR;obtain ⟨k0,k1,k2,qg,k4,k5,k6,k7⟩:=ai.at HB.o;go_wp2_with fail
         go_meet
         exact ⟨HF.o,HX.o,HB.o,HR.o⟩
     case rest=>
      obtain ⟨hF,hX,hB,hR⟩:=hcut;generalize wc=V5 at*;have HF:=ae hF;have HB:=ae hB;have HR:=ae hR
      have kO:=ae (kO.o.trans hX);have fS:=ae (hX.ext fS.o cX.o)
      clear hF hX hB hR;obtain ⟨e6,he⟩: ∃e',e'=cK (bM c.outs (wM c)) e5 c.outs.length:=⟨_,rfl⟩;have Nr:=ae he;clear he
      go_upto_block 10 with fail
      go_cut [] (fun wx=>FE wx K e6∧ar K V5 wx∧aJ wx B 32 c.cells∧aJ wx R 52 [i64 0,i64 0,i64 0])
      case first=>
       as_aux_lemma=>
        go_wp2_with fail
        go_loopw [10] (fun ii wx=> ∃i:Nat,i≤c.outs.length∧FE wx K (cK (bM c.outs (wM c)) e5 i)∧ar K V5 wx∧aJ wx B 32 c.cells∧aJ wx R 52 [i64 0,i64 0,i64 0]∧ii= .int .i64 i) (fun ii _=>c.outs.length-(intOf ii).toNat)
        case atStart=>exact ⟨0,Nat.zero_le _,HF.o,ar.refl _ _,HB.o,HR.o,rfl⟩
        case round=>
         obtain ⟨i,hi,hF,hX,hB,hR,rfl⟩:=hrel;have hne:=fun q=>gu (F:=bM c.outs (wM c)) (fun i e h=>cP (pW c) i e h) (e:=e5) (n:=c.outs.length) hi q;have k3:=hF.cell;have hlen:=qL.o.outs;by_cases hlt:i<c.outs.length
         ·have HS:=ae (dC (bM c.outs (wM c)) e5 i)
          rw [ie hlt]at HS;generalize cK (bM c.outs (wM c)) e5 i=e0 at*;have HF:=ae hF;have HX:=ae hX;have HB:=ae hB;have HR:=ae hR;have jV:=ae hne
          have fS:=ae (hX.ext fS.o cX.o);clear hF hX hB hR hne;by_cases h0:e0=0
          ·have t1:(e0==0)=true:=by simpa using h0
           clear h0;obtain ⟨k0,k1,k2,qg,k4,k5,k6,k7⟩:=ai.at HB.o;have HC:=ae (CY w0 wr K c e0 i hlt cX.o fS.o et.o hlen qL.o.moves HF.o);go_wp2_with fail
           refine HC.o.mono ?_;rintro e w2 ⟨rfl,hf,hx⟩;have ly:=ae (And.intro hf (And.intro (HX.o.trans hx) (And.intro (HB.o.but hx fP) (HR.o.but hx EI))));clear hf hx k0 k1 k2 k3 qg k4 k5 k6 k7;go_wp2_with fail
           exact ⟨⟨i+1,by omega,by rw [HS.o];exact ly.o.1,ly.o.2.1,ly.o.2.2.1,ly.o.2.2.2,by go_num⟩,by simp only [intOf];omega⟩
          ·have t1:(e0==0)=false:=by simpa using h0
           have HE:=ae (jV.o h0);clear h0;obtain ⟨k0,k1,k2,qg,k4,k5,k6,k7⟩:=ai.at HB.o;go_wp2_with fail
           go_meet
           exact ⟨by rw [Nr.o,←HE.o];exact HF.o,HX.o,HB.o,HR.o⟩
         ·obtain rfl:i=c.outs.length:=by omega
          rw [←Nr.o]at hF;have HF:=ae hF;have HX:=ae hX;have HB:=ae hB;have HR:=ae hR
          clear hne hF hX hB hR;obtain ⟨k0,k1,k2,qg,k4,k5,k6,k7⟩:=ai.at HB.o;go_wp2_with fail
          go_meet
          exact ⟨HF.o,HX.o,HB.o,HR.o⟩
      case rest=>
       obtain ⟨hF,hX,hB,hR⟩:=hcut;generalize wc=V6 at*;have HF:=ae hF;have HB:=ae hB;have HR:=ae hR
       have kO:=ae (kO.o.trans hX);have fS:=ae (hX.ext fS.o cX.o)
       clear hF hX hB hR;obtain ⟨e7,he⟩: ∃e',e'=cK (lp c) e6 c.hours.toNat:=⟨_,rfl⟩;have Ns:=ae he;clear he;have XD:=fS
       have uy:e6=0→(1≤c.hours∧c.hours≤24)∧ ∀i (hi:i<c.lines.length),(0≤c.lines[i].cU∧c.lines[i].cU<c.ak.length)∧(0≤c.lines[i].j5∧c.lines[i].j5<c.ak.length):=fun h=>by
        rw [Nr.o]at h;have h5:=(fF (fun i e h=>cP (pW c) i e h) h).1;rw [Ml.o]at h5;have h4:=(fF (fun i e h=>cP (pV c) i e h) h5).1;rw [uG.o]at h4;have h3:=(fF (fun i e h=>cP (l9 c) i e h) h4).1;rw [yM.o]at h3;have h2:=(fF (fun i e h=>cP (nV c) i e h) h3).1;rw [wE.o]at h2;have h1:=sG (c:=c) h2;have h0:=h1.1;rw [yL.o]at h0;have hf:=(fF (fun i e h=>cP (pU c) i e h) h0).1;rw [XA.o]at hf;exact ⟨AP hf,h1.2⟩
       have HGD:=ae uy;clear uy
       go_upto_block 12 with fail
       go_cut [] (fun wx=>FE wx K e7∧ar K V6 wx∧aJ wx B 32 c.cells∧aJ wx R 52 [i64 0,i64 0,i64 0])
       case first=>
        as_aux_lemma=>
         go_wp2_with fail
         go_loopw [11] (fun ii wx=> ∃h:Nat,h≤c.hours.toNat∧FE wx K (cK (lp c) e6 h)∧ar K V6 wx∧aJ wx B 32 c.cells∧aJ wx R 52 [i64 0,i64 0,i64 0]∧ii= .int .i64 h) (fun ii _=>c.hours.toNat-(intOf ii).toNat)
         case atStart=>exact ⟨0,Nat.zero_le _,HF.o,ar.refl _ _,HB.o,HR.o,rfl⟩
         case round=>
             obtain ⟨h,hh,hF,hX,hB,hR,rfl⟩:=hrel;have hne:=fun q=>gu (F:=lp c) (nW c) (e:=e6) (n:=c.hours.toNat) hh q;have XE:=ae (show h=c.hours.toNat→cK (lp c) e6 h=e7 from fun q=>by rw [q,Ns.o]);have hz:=fun q=>(fF (F:=lp c) (nW c) (e:=e6) (n:=h) q).1;have k3:=hF.cell;have HS:=ae (dC (lp c) e6 h);generalize cK (lp c) e6 h=e0 at*;have fS:=ae (hX.ext fS.o cX.o);have tQ:=ae hF;have yO:=ae hX;have ME:=ae hB;have Sg:=ae hR;have jV:=ae hne
             clear hF hX hB hR hne;by_cases h0:e0=0
             ·have t1:(e0==0)=true:=by simpa using h0
              obtain ⟨⟨g1,g2⟩,Ko⟩:=HGD.o (hz h0);have MA:=ae Ko;have UD:=ae h0;clear hz Ko h0;by_cases hlt:h<c.hours.toNat
              ·have th:decide ((h:Int)<c.hours)=true:=by simp;omega
               obtain ⟨k0,k1,k2,qg,k4,k5,k6,k7⟩:=ai.at ME.o;have HP:=ae (Fy w0 wr c (h:Int) fS.o et.o qL.o.lines);go_wp2_with fail
               refine HP.o.mono ?_;rintro e w2 ⟨pa,pc,MF,XF,rfl,vZ,hat,x2,hfp,PX⟩;rw [(uN MA.o (h:Int)).2]at vZ;have Sh:=(uN MA.o (h:Int)).1;have N7:=uO c (h:Int);have hEl:(jm c (h:Int)).length≤1000000:=by rw [N7];exact Nat.le_trans (h_ _ _ _) qL.o.lines
               have iG:=h_ c (h:Int) c.lines.length;have PE:=qL.o.lines;have HFH:Hid (lp c h e0=cK (bM c.outs fun x _ e=>nd e (!jI c h x) 13) e0 c.outs.length):=rfl;have Xt:Hid (∀x,jI c h x=H6 c.ak.length (jm c h) (bU (eU (cC c h c.lines.length) x.lines (cC c h c.lines.length).length))):=fun _=>rfl;obtain ⟨Fo,XG⟩: ∃Fo,Fo=(fun(x:bB) (_:Nat) (e:Int)=>nd e (!jI c h x) 13):=⟨_,rfl⟩;have HFo:Hid (∀x i e,Fo x i e=nd e (!jI c h x) 13):=fun x i e=>by rw [XG]
               rw [←XG]at HFH;clear XG;have Si:=Xt.o;generalize jm c (h:Int)=E at*;have Bk:=jd c (h:Int) c.lines.length;generalize cC c (h:Int) c.lines.length=l at*;have XH:=ae N7;clear N7
               have zP:=ae vZ;have sO:=ae hat;have HED:=ae Sh;have Lc:=ae Si
               have CT:=ae (tQ.o.ext x2);have q9:=ae (ME.o.ext x2);have tU:=ae (Sg.o.ext x2);have fg:=ae (yO.o.trans (x2.but K))
               have J9:=tQ.o.lt;have HPK:Hid (∀p,pa=some p→p.block≠K):=fun p hp=>by have:=hfp p hp;omega
               have UL:Hid (∀p,MF=some p→p.block≠K):=fun p hp=>by have:=PX p hp;omega
               have CZ:=hat.le;have Hy:=hat.cap
               rw [cq]at CZ;clear Si vZ hat Sh x2 hfp PX k0 k1 k2 qg k4 k5 k6 k7 k3 HP tQ yO ME Sg MA Bk J9;go_wp2_with fail
               go_loopw [14] (fun ii wx=> ∃i:Nat,i≤c.outs.length∧FE wx K (cK (bM c.outs Fo) e0 i)∧ar K V6 wx∧aJ wx B 32 c.cells∧aJ wx R 52 [i64 0,i64 0,i64 0]∧bS wx 2 pa pc (er E)∧aD wx MF XF (bU l)∧ii= .int .i64 i) (fun ii _=>c.outs.length-(intOf ii).toNat)
               case atStart=>exact ⟨0,Nat.zero_le _,CT.o,fg.o,q9.o,tU.o,zP.o,sO.o,rfl⟩
               case round=>
                obtain ⟨i,hi,hF,hX,hB,hR,vZ,hat,rfl⟩:=hrel;clear CT fg q9 tU zP sO;have hlen:=qL.o.outs;by_cases hlt:i<c.outs.length
                ·have XI:=ae (dC (bM c.outs Fo) e0 i)
                 rw [ie hlt,HFo.o]at XI;have fS:=ae (hX.ext XD.o cX.o);obtain ⟨ob,oo,Sj,-,o1,-,-⟩:=(et.o.outs.ext fS.o).outs i hlt;have Kp:=(et.o.o c.outs[i] (List.getElem_mem hlt)).2.1
                 have adG:ob≠K:=by
                  obtain ⟨b3,o3,h3,q0,-⟩:=et.o.outs.outs i hlt;rw [Sj]at h3;cases h3
                  have:=bm q0;simp only at this;have:=cX.o;omega
                 generalize cK (bM c.outs Fo) e0 i=e1 at*;have Sk:=ae (Lc.o c.outs[i]);obtain ⟨x,jc⟩: ∃x,x=c.outs[i]:=⟨_,rfl⟩;rw [←jc]at o1 Kp XI Sk;obtain ⟨-,-,k2,-,-,-,-,k7⟩:=ai.at hB;have HF:=ae hF;have HX:=ae hX;have HB:=ae hB;have HR:=ae hR;have zP:=ae vZ;have sO:=ae hat
                 have Xs:=ae Kp;have HOA:=ae Sj
                 have f_:(0:Int)≤(i:Int):=by omega
                 have fU:(i:Int)<(c.outs.length:Int):=by omega
                 have O1:=ae o1;clear hF hX hB hR vZ hat Kp Sj jc o1;obtain ⟨wo,Dl⟩: ∃wo:World,wo=wr:=⟨_,rfl⟩;subst Dl;go_wp2_with fail
                 go_loopw [15,16] (fun v kk wy=> ∃k:Nat,k≤l.length∧aN wy wo.heap.size 3 1 v (fo (eU l x.lines k))∧Ext wo wy∧kk= .int .i64 k) (fun _ kk _=>l.length-(intOf kk).toNat)
                 case atStart=>exact ⟨0,Nat.zero_le _,aN.nil _ _ _ _,Ext.refl _,rfl⟩
                 case round=>
                  obtain ⟨k,hk,hown,hE,rfl⟩:=hrel;have HO:=ae hown;clear hown k2 k7;by_cases hlk:k<l.length
                  ·obtain ⟨ab,ao,hab,i0⟩:=(sO.o.ext hE).cell k (by rw [cq];exact hlk)
                   have PL:(bU l)[k]'(by rw [cq];exact hlk)=((l[k]:Nat):Int):=by simp [bU]
                   rw [PL]at i0
                   have HST:Hid (eU l x.lines (k+1)=if hasB x.lines ((l[k]:Nat):Int)=true then eU l x.lines k++ [k]else eU l x.lines k):=by
                        show _=_;have:l.getD k 0=l[k]:=by rw [List.getD_eq_getElem?_getD,List.getElem?_eq_getElem hlk];rfl
                        rw [←this];rfl
                   have PH:=ae (oH l x.lines k);generalize eU l x.lines k=gs at*;obtain ⟨lk,Sl⟩: ∃lk,lk=l[k]:=⟨_,rfl⟩;rw [←Sl]at i0 HST;have Mr:=ae (fun U (hU:Ext wr U)=>yC U x.la x.lc x.lines (lk:Int) (((Xs.o.ext fS.o).ext hE).ext hU));obtain ⟨-,-,-,-,-,-,-,k7⟩:=ai.at (HB.o.ext hE);have o1:=aj hE O1.o;have Qs:(0:Int)≤(k:Int):=by omega
                   have Ni:(k:Int)<(l.length:Int):=by omega
                   have HE:=ae hE;have vX:=hE.size
                   have zT:=ae hab;clear hE Sl PL hab;rw [zT.o];rcases Bool.eq_false_or_eq_true (hasB x.lines (lk:Int))with hq|hq
                   ·rw [hq]at Mr HST
                    clear hq
                    have HOW:Hid (wr.ownsRow wo.heap.size 3 1 u15 gs.length (fo gs).flatten):=by
                        have h5:=HO.o.own;rw [dB]at h5;exact h5
                    go_wp2_with fail
                    refine aB (fun w'=>w'.cell? ⟨B,7,none⟩=some (.slice c.oa c.outs.length c.oc)∧w'.cell? ⟨ob,oo+i*4+1,none⟩=some (.slice x.la x.lines.length x.lc)∧w'.cell? ⟨ab,ao+k,none⟩=some (i64 (lk:Int))) (fun w'=>True) (fun i=>false) (by kernel_rfl) (⟨aj (Ext.refl wr).drew k7,aj (Ext.refl wr).drew o1,aj (Ext.refl wr).drew i0⟩) (trivial) (fun aq ah=> ?_);refine ay 0 aq ah ?_;refine ay 1 aq ah ?_;refine ay 2 aq ah ?_ (v:= .int .i64 (i:Int));refine ay 3 aq ah ?_ (hy:=by rintro w ⟨e0,e1,e2⟩;have Sj:=HOA.o;go_simp;try rfl);refine ay 4 aq ah ?_;refine ay 5 aq ah ?_;refine ay 6 aq ah ?_;refine ay 7 aq ah ?_ (v:= .int .i64 (k:Int));refine ay 8 aq ah ?_;refine ay 9 aq ah ?_ (v:=i64 (lk:Int));refine dX 10 rfl (fun Kc hK=> ?_);go_simp;refine (Mr.o wr.drew (Ext.refl wr).drew).mono ?_;rintro e w9 ⟨rfl,Sm⟩;rw [Sm];clear Sm;refine hK.o _ _ (⟨aj (Ext.refl wr).drew k7,aj (Ext.refl wr).drew o1,aj (Ext.refl wr).drew i0⟩) (trivial) (fun aq ah=> ?_);clear hK Kc;try simp only [sS]
                    refine ax (by kernel_rfl) ?_ _;clear aq ah;clear k7 o1 i0;go_wp2_with (at_builtin;refine aW _ rfl (.tmp 194) (.tmp 196) 22 rfl wo.heap.size 3 (.int .i64 0) 1 8 underlying22 Tryz.info_int rfl (by decide) u15 gs.length (fo gs).flatten rfl ?c1 (some ⟨wr.heap.size,0,none⟩) 1 1 [i64 (k:Int)] rfl rfl ?c2 ?c3 ?c4 ?c5 (by decide) ?c6 ?_;rotate_right;intro v1 w5 ho he hb hz hv)
                    case c1=>exact bq HOW.o ((Ext.refl _).drew.alloc _)
                    case c2=>exact fun _=>⟨_,rfl,cu wr.drew 3 [i64 (k:Int)]⟩
                    case c3=>intro u hu;rw [List.mem_singleton]at hu;subst hu;rfl
                    case c4=>intro e;cases e
                    case c5=>have:=PH.o;omega
                    case c6=>exact Nat.le_trans vX ((Ext.refl wr).drew.alloc _).size
                    have x5:Ext wo w5:=he.o wo (HE.o.drew.alloc _) (Nat.le_refl _);have i5:=HO.o.snoc (w':=w5) (v':=v1) (r:= [i64 (k:Int)]) rfl (by rw [dB];exact ho.o);rw [←lX]at i5;exact ⟨⟨k+1,by omega,by rw [HST.o];simpa using i5,x5,by go_num⟩,by simp only [intOf];omega⟩
                   ·rw [hq]at Mr HST
                    clear hq;go_wp2_with fail
                    refine aB (fun w'=>w'.cell? ⟨B,7,none⟩=some (.slice c.oa c.outs.length c.oc)∧w'.cell? ⟨ob,oo+i*4+1,none⟩=some (.slice x.la x.lines.length x.lc)∧w'.cell? ⟨ab,ao+k,none⟩=some (i64 (lk:Int))) (fun w'=>True) (fun i=>false) (by kernel_rfl) (⟨aj (Ext.refl wr).drew k7,aj (Ext.refl wr).drew o1,aj (Ext.refl wr).drew i0⟩) (trivial) (fun aq ah=> ?_);refine ay 0 aq ah ?_;refine ay 1 aq ah ?_;refine ay 2 aq ah ?_ (v:= .int .i64 (i:Int));refine ay 3 aq ah ?_ (hy:=by rintro w ⟨e0,e1,e2⟩;have Sj:=HOA.o;go_simp;try rfl);refine ay 4 aq ah ?_;refine ay 5 aq ah ?_;refine ay 6 aq ah ?_;refine ay 7 aq ah ?_ (v:= .int .i64 (k:Int));refine ay 8 aq ah ?_;refine ay 9 aq ah ?_ (v:=i64 (lk:Int));refine dX 10 rfl (fun Kc hK=> ?_);go_simp;refine (Mr.o wr.drew (Ext.refl wr).drew).mono ?_;rintro e w9 ⟨rfl,Sm⟩;rw [Sm];clear Sm;refine hK.o _ _ (⟨aj (Ext.refl wr).drew k7,aj (Ext.refl wr).drew o1,aj (Ext.refl wr).drew i0⟩) (trivial) (fun aq ah=> ?_);clear hK Kc;try simp only [sS]
                    refine ax (by kernel_rfl) ?_ _;clear aq ah;clear k7 o1 i0;go_wp2_with fail
                    exact ⟨⟨k+1,by omega,by rw [HST.o];simpa using HO.o.ext (Ext.refl wr).drew,HE.o.drew,by go_num⟩,by simp only [intOf];omega⟩
                  ·obtain rfl:k=l.length:=by omega
                   obtain ⟨ga,gc,rfl,hS,-⟩:=HO.o.recs (by decide);rw [dB,←cq (eU l x.lines l.length)];rw [lY]at hS;have hgI:=aD.nk hS (np (rq l x.lines l.length) (by omega));have XJ:=wK wr c.ak.length pa pc E ga gc (bU (eU l x.lines l.length)) qL.o.ak hEl (zP.o.ext hE) HED.o hgI;rw [XH.o]at XJ;have HSC:=ae XJ;obtain ⟨-,-,k2,-,-,-,-,-⟩:=ai.at (HB.o.ext hE);have XB:=ae (HF.o.ext hE);have UR:=ae (HB.o.ext hE);have sq:=ae (HR.o.ext hE);have mS:=ae (HX.o.trans (hE.but K));have XK:=ae (zP.o.ext hE);have XL:=ae (sO.o.ext hE)
                   clear hS hgI XJ hE HO HF HB HR HX zP sO;go_wp2_with fail
                   refine HSC.o.mono ?_;rintro e w6 ⟨rfl,x6⟩;rw [←Sk.o];have GN:=ae x6;clear x6 k2;go_wp2_with fail
                   refine (cf _ K _ _ _ _ _ _ (XB.o.ext GN.o)).mono ?_;rintro e w7 ⟨rfl,hf,hx⟩;rw [←XI.o]at hf;have ly:=ae (And.intro hf (And.intro ((mS.o.trans (GN.o.but K)).trans hx) (And.intro ((UR.o.ext GN.o).but hx fP) (And.intro ((sq.o.ext GN.o).but hx EI) (And.intro (bS.but (XK.o.ext GN.o) hx HPK.o) ((XL.o.ext GN.o).dA hx UL.o))))));clear hf hx;go_wp2_with fail
                   exact ⟨⟨i+1,by omega,ly.o.1,ly.o.2.1,ly.o.2.2.1,ly.o.2.2.2.1,ly.o.2.2.2.2.1,ly.o.2.2.2.2.2,by go_num⟩,by simp only [intOf];omega⟩
                ·obtain rfl:i=c.outs.length:=by omega
                 obtain ⟨-,-,-,-,-,-,-,k7⟩:=ai.at hB;have ly:=ae (And.intro hF (And.intro hX (And.intro hB hR)));clear hF hX hB hR vZ hat;go_wp2_with fail
                 exact ⟨⟨h+1,by omega,by rw [HS.o,HFH.o];exact ly.o.1,ly.o.2.1,ly.o.2.2.1,ly.o.2.2.2,by go_num⟩,by simp only [intOf];omega⟩
              ·have hq:=XE.o (by omega)
               have HE:=ae hq;have th:decide ((h:Int)<c.hours)=false:=by simp;omega
               obtain ⟨k0,-⟩:=ai.at ME.o;clear hq;go_wp2_with fail
               go_meet
               exact ⟨by rw [←HE.o];exact tQ.o,yO.o,ME.o,Sg.o⟩
             ·have t1:(e0==0)=false:=by simpa using h0
              have HE:=ae (jV.o h0);clear h0 hz;obtain ⟨k0,-⟩:=ai.at ME.o;rcases Bool.eq_false_or_eq_true (decide ((h:Int)<c.hours))with th|th
              ·go_wp2_with fail
               go_meet
               exact ⟨by rw [Ns.o,←HE.o];exact tQ.o,yO.o,ME.o,Sg.o⟩
              ·go_wp2_with fail
               go_meet
               exact ⟨by rw [Ns.o,←HE.o];exact tQ.o,yO.o,ME.o,Sg.o⟩
       case rest=>
        obtain ⟨hF,hX,hB,hR⟩:=hcut;generalize wc=V7 at*;have HF:=ae hF;have HB:=ae hB;have HR:=ae hR
        have kO:=ae (kO.o.trans hX);have fS:=ae (hX.ext fS.o cX.o)
        have hce:e7=ce:=by
         rw [Cy.o];unfold cV uL uK uJ mf oY l_ oX
         rw [←XA.o,←yL.o,←wE.o,←yM.o,←uG.o,←Ml.o,←Nr.o,←Ns.o]
        rw [hce]at hF;obtain ⟨fk,fi,ff,XM⟩:=hF;obtain ⟨c0,c1,c2,c3,-⟩:=Ed XM;have r0:V7.cell? ⟨R,0,none⟩=some (i64 0):=(hR.cell 0).trans rfl;have r1:V7.cell? ⟨R,1,none⟩=some (i64 0):=(hR.cell 1).trans rfl;have r2:V7.cell? ⟨R,2,none⟩=some (i64 0):=(hR.cell 2).trans rfl;have q0:V7.frozen? ⟨R,0,none⟩=false:=hR.frozen 0;have q1:V7.frozen? ⟨R,1,none⟩=false:=hR.frozen 1;have q2:V7.frozen? ⟨R,2,none⟩=false:=hR.frozen 2;have zb: ∀o,(⟨R,o,none⟩:Addr).block≠K:=fun o=>EI;have IP:=ae (((hR.set 0 (i64 fk)).set 1 (i64 fi)).set 2 (i64 ff));have Xy:Hid (Mb (((V7.setCell ⟨R,0,none⟩ (i64 fk)).setCell ⟨R,1,none⟩ (i64 fi)).setCell ⟨R,2,none⟩ (i64 ff)) K ⟨fk,fi,ff,ce⟩):=((XM.other _ _ (zb 0)).other _ _ (zb 1)).other _ _ (zb 2);obtain ⟨d0,d1,d2,d3,-⟩:=Ed Xy.o;obtain ⟨s0,s1,s2⟩:(((V7.setCell ⟨R,0,none⟩ (i64 fk)).setCell ⟨R,1,none⟩ (i64 fi)).setCell ⟨R,2,none⟩ (i64 ff)).drew.cell? ⟨R,0,none⟩=some (i64 fk)∧(((V7.setCell ⟨R,0,none⟩ (i64 fk)).setCell ⟨R,1,none⟩ (i64 fi)).setCell ⟨R,2,none⟩ (i64 ff)).drew.cell? ⟨R,1,none⟩=some (i64 fi)∧(((V7.setCell ⟨R,0,none⟩ (i64 fk)).setCell ⟨R,1,none⟩ (i64 fi)).setCell ⟨R,2,none⟩ (i64 ff)).drew.cell? ⟨R,2,none⟩=some (i64 ff):=⟨(IP.o.cell 0).trans rfl,(IP.o.cell 1).trans rfl,(IP.o.cell 2).trans rfl⟩;have Au:Hid (Ext w0 (((V7.setCell ⟨R,0,none⟩ (i64 fk)).setCell ⟨R,1,none⟩ (i64 fi)).setCell ⟨R,2,none⟩ (i64 ff)).drew):=(((fS.o.setCell (p:=⟨R,0,none⟩) Kq.o _).setCell (p:=⟨R,1,none⟩) Kq.o _).setCell (p:=⟨R,2,none⟩) Kq.o _).drew;clear hX hB hR XM hce zb;go_wp2_with fail
        refine aB (fun w'=>w'.cell? ⟨K,0,none⟩=some (i64 fk)∧w'.cell? ⟨K,1,none⟩=some (i64 fi)∧w'.cell? ⟨K,2,none⟩=some (i64 ff)∧w'.cell? ⟨K,3,none⟩=some (i64 ce)) (fun w'=>True) (fun i=>false) (by kernel_rfl) (⟨c0,c1,c2,c3⟩) (trivial) (fun aq ah=> ?_);refine ay 0 aq ah ?_;refine ay 1 aq ah ?_;refine ay 2 aq ah ?_;refine ay 3 aq ah ?_ (v:= .agg #[i64 fk,i64 fi,i64 ff]);refine ay 4 aq ah ?_;refine ay 5 aq ah ?_;refine ay 6 aq ah ?_;refine ay 7 aq ah ?_ (v:=i64 ce);refine dX 8 rfl (fun Kc hK=> ?_);go_simp;refine hK.o _ _ (⟨d0,d1,d2,d3⟩) (trivial) (fun aq ah=> ?_);clear hK Kc;try simp only [sS]
        refine ay 9 aq ah ?_ (v:=i64 ce);refine ax (by kernel_rfl) ?_ _;clear aq ah;go_wp2_with fail
        exact bodyPost_ret (v:= .tuple #[.agg #[i64 fk,i64 fi,i64 ff],i64 ce]) (by simp [results,results21,go_sem,s0,s1,s2]) rfl ⟨fk,fi,ff,rfl,Au.o⟩
end Go.Proofs.YtkpngkdgphojlaaGreat
