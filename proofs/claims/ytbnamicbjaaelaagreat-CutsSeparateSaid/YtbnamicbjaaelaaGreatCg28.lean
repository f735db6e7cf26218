/- Texts of the proof. -/
import Derived.Test.YtbnamicbjaaelaaGreatCg21
set_option linter.all false
set_option maxHeartbeats 4000000
set_option maxRecDepth 100000
namespace Go.Proofs.YtbnamicbjaaelaaGreat
open Go.Proofs.Tryz
open Go.RowKit
theorem Ai (w0:World) (c:ay) (hc:bm w0 c) (hl:oX c):
 Calls prog 27 #[.agg (C8 c)] w0 λe w'=> ∃k i f,e= .returned (.tuple #[.agg #[i64 k,i64 i,i64 f],i64 (cE c)])/\Ext w0 w':=by
 try unfold C8
 have eT:=ah hc;have oB:=ah hl
 obtain ⟨ce,hce⟩: ∃ce,ce=cE c:=⟨_,rfl⟩;rw [<-hce];have Mp:=ah hce;clear hce;clear hc hl;go_enter func27,ntmps27
 go_upto_region 1 with fail
 obtain ⟨W0,hW,x0,Z0,A0,A1⟩:=dZ w0 32 c.cells 78 [i64 0,i64 0,i64 0];rw [show(w0.alloc (.cells (C8 c) 32)).alloc (.cells #[i64 0,i64 0,i64 0] 78)=W0 from hW.symm];clear hW;go_upto_region 2 with fail
 obtain ⟨W1,hW,x1,Z1,A2⟩:=aV W0 115 [i64 0,i64 0,i64 0,i64 0];rw [show W0.alloc (.cells #[i64 0,i64 0,i64 0,i64 0] 115)=W1 from hW.symm];clear hW;have z0:=Z0.o;obtain ⟨B,hB⟩: ∃B,B=w0.heap.size:=⟨_,rfl⟩;obtain ⟨R,hR⟩: ∃R,R=w0.heap.size+1:=⟨_,rfl⟩;obtain ⟨K,hK⟩: ∃K,K=W0.heap.size:=⟨_,rfl⟩;rw [<-hR]at A1⊢;rw [<-hB]at A0⊢;rw [<-hK]at A2⊢;have gZ:B≠K:=ae;have Ho:R≠K:=ae;have dN:Hid (w0.heap.size<=K):=by show _<=_;omega
 have HF:Hid (FE W1 K 0):=⟨0,0,0,A2⟩;have HB:=ah (A0.ext x1);have HR:=ah (A1.ext x1)
 have ig:=ah (x0.trans x1);have kX:Hid (aB K W1 W1):=aB.refl _ _;have D7:Hid (w0.heap.size<=R):=by show _<=_;omega
 obtain ⟨ef,he⟩: ∃e',e'=iN c 0:=⟨_,rfl⟩;have HQ0:=ah he;clear he A0 A1 A2 x0 x1 Z0 Z1 z0 hB hR hK;obtain ⟨k0,k1,k2,k3,k4,k5,k6,k7⟩:=ay.at HB.o;go_wp2_with fail
 refine (I' w0 W1 K c 0 dN.o ig.o eT.o oB.o HF.o).mono ?_;rintro e W2 ⟨rfl,hf,hx⟩;rw [<-HQ0.o]at hf;have HF:=ah hf;have HB:=ah (HB.o.but hx gZ);have HR:=ah (HR.o.but hx Ho)
 have kX:=ah (kX.o.trans hx);have ig:=ah (hx.ext ig.o dN.o)
 clear hf hx k0 k1 k2 k3 k4 k5 k6 k7;obtain ⟨e1,he⟩: ∃e',e'=dF (cK c.aF (uj c)) ef c.aF.length:=⟨_,rfl⟩;have nX:=ah he;clear he
 go_upto_block 0 with fail
 go_cut [] (λwx=>FE wx K e1/\aB K W2 wx/\aT wx B 32 c.cells/\aT wx R 78 [i64 0,i64 0,i64 0])
 case first=>
  as_aux_lemma=>
   go_wp2
   go_loopw [5] (λii wx=> ∃i:Nat,i<=c.aF.length/\FE wx K (dF (cK c.aF (uj c)) ef i)/\aB K W2 wx/\aT wx B 32 c.cells/\aT wx R 78 [i64 0,i64 0,i64 0]/\ii= .int .i64 i) (λii _=>c.aF.length-(intOf ii).toNat)
   case atStart=>exact ⟨0,aZ,HF.o,aB.refl _ _,HB.o,HR.o,rfl⟩
   case round=>
    obtain ⟨i,hi,hF,hX,hB,hR,rfl⟩:=hrel;have hne:=λq=>iA (F:=cK c.aF (uj c)) (λi e h=>dI (sG c) i e h) (e:=ef) (n:=c.aF.length) hi q;have k3:=hF.cell;have hlen:=oB.o.aF;by_cases hlt:i<c.aF.length
    .have HS:=ah (eo (cK c.aF (uj c)) ef i)
     rw [i7 hlt]at HS;generalize dF (cK c.aF (uj c)) ef i=e0 at*;have HF:=ah hF;have HX:=ah hX;have HB:=ah hB;have HR:=ah hR;have qO:=ah hne
     have ig:=ah (hX.ext ig.o dN.o);clear hF hX hB hR hne;by_cases h0:e0=0
     .have t1:(e0==0)=true:=by simpa using h0
      clear h0;obtain ⟨bb,bo,ha,b0,b1,b2⟩:=(eT.o.aF.ext ig.o).aF i hlt;have TJ:=eT.o.fE c.aF[i] (List.getElem_mem hlt);have mr:Hid (∃h:i<(c.aF.map dK.name).length,(c.aF.map dK.name)[i]=c.aF[i].name/\(c.aF.map dK.name).take i=(c.aF.take i).map dK.name):=⟨by simpa using hlt,aG,by rw [List.map_take]⟩;have xv:Hid ((c.aF.map dK.name).length<=1000000):=by(show _<=_;rw [List.length_map];exact hlen)
      obtain ⟨prev,FB⟩: ∃prev,prev=(c.aF.take i).map dK.name:=⟨_,rfl⟩;have HS:Hid (dF (cK c.aF (uj c)) ef (i+1)=p_ c c.aF[i] ((c.aF.take i).map dK.name) e0):=HS.o;rw [<-FB]at HS mr;obtain ⟨x,kJ⟩: ∃x,x=c.aF[i]:=⟨_,rfl⟩;rw [<-kJ]at b0 b1 b2 TJ HS mr;have uL:=ah ha;have jq:=ah TJ;have uI:=ah kJ
      have iM:(0:Int)<=(i:Int):=ae;have iK:(i:Int)<(c.aF.length:Int):=ae;clear ha TJ FB kJ;obtain ⟨k0,k1,k2,tq,k4,k5,k6,k7⟩:=ay.at HB.o;have HC:=ah (mL w0 wr K c e0 1 i prev _ x.name (p7 c) aq mr.o xv.o dN.o ig.o eT.o jq.o.1 HF.o);go_wp2_with fail
      refine HC.o.mono ?_;rintro e w2 ⟨rfl,hf,hx⟩;have Iq:=ah hf;have eR:=ah (HX.o.trans hx);have ud:=ah (HB.o.but hx gZ);have nk:=ah (HR.o.but hx Ho)
      have OS:=ah (hx.ext ig.o dN.o);clear b0 b1 b2 hf hx k0 k1 k2 k3 tq k4 k5 k6 k7 HC;obtain ⟨bb',bo',ha,b0,b1,b2⟩:=(eT.o.aF.ext OS.o).aF i hlt;rw [uL.o]at ha;cases ha
      rw [<-show x=c.aF[i]from uI.o]at b0 b1 b2;clear b0;obtain ⟨k0,k1,k2,tq,k4,k5,k6,k7⟩:=ay.at ud.o
      have Og:bb≠K:=by
       obtain ⟨b3,o3,h3,q0,-⟩:=eT.o.aF.aF i hlt;rw [uL.o]at h3;cases h3
       have:=cY q0;simp only at this;have:=dN.o;omega
      have HH:=ah (λU (hU:Ext w0 U) (hF:FE U K (gJ e0 x.name prev))=>qA w0 U K c (gJ e0 x.name prev) x.da x.dc x.cV 0 1048576 1 i 1 dN.o hU jq.o.2.1 hF);go_wp2_with fail
      refine aO (λw'=>w'.cell? ⟨B,0,none⟩=some (i64 c.hours)/\w'.cell? ⟨B,1,none⟩=some (.slice c.ra c.aX.length c.rc)/\w'.cell? ⟨B,2,none⟩=some (.slice c.ba c.aF.length c.bc)/\w'.cell? ⟨B,3,none⟩=some (.slice c.la c.lines.length c.lc)/\w'.cell? ⟨B,4,none⟩=some (.slice c.ua c.aA.length c.uc)/\w'.cell? ⟨B,5,none⟩=some (.slice c.sa c.stores.length c.sc)/\w'.cell? ⟨B,6,none⟩=some (.slice c.ta c.bh.length c.tc)/\w'.cell? ⟨B,7,none⟩=some (.slice c.oa c.outs.length c.oc)/\w'.cell? ⟨bb,bo+i*3+1,none⟩=some (.slice x.da x.cV.length x.dc)) (λw'=>True) (λi=>false) ax (⟨k0,k1,k2,tq,k4,k5,k6,k7,b1⟩) (trivial) (λaD ai=> ?_);refine aJ 0 aD ai ?_;refine aJ 1 aD ai ?_ (v:= .agg (C8 c));refine aJ 2 aD ai ?_;refine aJ 3 aD ai ?_;refine aJ 4 aD ai ?_ (v:= .int .i64 (i:Int));refine aJ 5 aD ai ?_ (hy:=by rintro w ⟨e0,e1,e2,e3,e4,e5,e6,e7,e8⟩;have ha:=uL.o;go_simp;try rfl);refine aJ 6 aD ai ?_;refine aJ 7 aD ai ?_;refine aJ 8 aD ai ?_ (v:= .int .i64 (i:Int));refine eI 9 rfl (λKc hK=> ?_);go_simp;refine (HH.o w2.drew (OS.o.trans (Ext.refl w2).drew) (Iq.o.ext (Ext.refl w2).drew)).mono ?_;rintro e W5 ⟨rfl,Lz,eP⟩;refine hK.o _ _ (⟨bU (aC (Ext.refl w2).drew k0) eP gZ,bU (aC (Ext.refl w2).drew k1) eP gZ,bU (aC (Ext.refl w2).drew k2) eP gZ,bU (aC (Ext.refl w2).drew tq) eP gZ,bU (aC (Ext.refl w2).drew k4) eP gZ,bU (aC (Ext.refl w2).drew k5) eP gZ,bU (aC (Ext.refl w2).drew k6) eP gZ,bU (aC (Ext.refl w2).drew k7) eP gZ,bU (aC (Ext.refl w2).drew b1) eP Og⟩) (trivial) (λaD ai=> ?_);clear hK Kc;try simp only [sS]
      refine aI ax ?_ _;clear aD ai;clear k0 k1 k2 tq k4 k5 k6 k7 b1 b2 Iq HH;have Wz:=ah Lz;have kR:=ah (eR.o.trans (((Ext.refl w2).drew.but K).trans eP));have OT:Hid (aT W5 B 32 c.cells):=(ud.o.ext (Ext.refl w2).drew).but eP gZ
      have sw:Hid (aT W5 R 78 [i64 0,i64 0,i64 0]):=(nk.o.ext (Ext.refl w2).drew).but eP Ho;have abU:=ah (eP.ext (OS.o.trans (Ext.refl w2).drew) dN.o);clear Lz eP eR ud nk OS;obtain ⟨-,-,k2,-,-,-,-,-⟩:=ay.at OT.o;obtain ⟨bb',bo',ha,-,-,b2⟩:=(eT.o.aF.ext abU.o).aF i hlt;rw [uL.o]at ha;cases ha
      rw [<-show x=c.aF[i]from uI.o]at b2;rw [uL.o]at k2;go_wp2_with fail
      refine (Bq W5 x.jF 0 1048576 jq.o.2.2).mono ?_;rintro e w1 ⟨rfl,rfl⟩;go_wp2_with fail
      refine (cZ _ K _ _ _ _ _ _ (Wz.o.alloc _)).mono ?_;rintro e W6 ⟨rfl,hf,hx⟩;have mV:=ah (And.intro hf (And.intro ((kR.o.alloc' _).trans hx) (And.intro ((OT.o.alloc' _).but hx gZ) ((sw.o.alloc' _).but hx Ho))));clear hf hx k2 b2;go_wp2
      exact ⟨⟨i+1,ae,by rw [HS.o];exact mV.o.1,mV.o.2.1,mV.o.2.2.1,mV.o.2.2.2,bf⟩,a_⟩
     .have t1:(e0==0)=false:=by simpa using h0
      have HE:=ah (qO.o h0);clear h0;obtain ⟨k0,k1,k2,tq,k4,k5,k6,k7⟩:=ay.at HB.o;go_wp2
      go_meet
      exact ⟨by rw [nX.o,<-HE.o];exact HF.o,HX.o,HB.o,HR.o⟩
    .obtain rfl:i=c.aF.length:=ae
     rw [<-nX.o]at hF;have HF:=ah hF;have HX:=ah hX;have HB:=ah hB;have HR:=ah hR
     clear hne hF hX hB hR;obtain ⟨k0,k1,k2,tq,k4,k5,k6,k7⟩:=ay.at HB.o;go_wp2
     go_meet
     exact ⟨HF.o,HX.o,HB.o,HR.o⟩
 case rest=>
  obtain ⟨hF,hX,hB,hR⟩:=hcut;generalize wc=V1 at*;have HF:=ah hF;have HB:=ah hB;have HR:=ah hR
  have kX:=ah (kX.o.trans hX);have ig:=ah (hX.ext ig.o dN.o)
  clear hF hX hB hR;obtain ⟨e2,he⟩: ∃e',e'=dF (cK c.lines (oh c)) e1 c.lines.length:=⟨_,rfl⟩;have pY:=ah he;clear he
  go_upto_block 2 with fail
  go_cut [] (λwx=>FE wx K e2/\aB K V1 wx/\aT wx B 32 c.cells/\aT wx R 78 [i64 0,i64 0,i64 0])
  case first=>
   as_aux_lemma=>
    go_wp2
    go_loopw [6] (λii wx=> ∃i:Nat,i<=c.lines.length/\FE wx K (dF (cK c.lines (oh c)) e1 i)/\aB K V1 wx/\aT wx B 32 c.cells/\aT wx R 78 [i64 0,i64 0,i64 0]/\ii= .int .i64 i) (λii _=>c.lines.length-(intOf ii).toNat)
    case atStart=>exact ⟨0,aZ,HF.o,aB.refl _ _,HB.o,HR.o,rfl⟩
    case round=>
     obtain ⟨i,hi,hF,hX,hB,hR,rfl⟩:=hrel;have hne:=λq=>iA (F:=cK c.lines (oh c)) (λi e h=>dI (uk c) i e h) (e:=e1) (n:=c.lines.length) hi q;have k3:=hF.cell;have hlen:=oB.o.lines;by_cases hlt:i<c.lines.length
     .have HS:=ah (eo (cK c.lines (oh c)) e1 i)
      rw [i7 hlt]at HS;generalize dF (cK c.lines (oh c)) e1 i=e0 at*;have HF:=ah hF;have HX:=ah hX;have HB:=ah hB;have HR:=ah hR;have qO:=ah hne
      have ig:=ah (hX.ext ig.o dN.o);clear hF hX hB hR hne;by_cases h0:e0=0
      .have t1:(e0==0)=true:=by simpa using h0
       clear h0;obtain ⟨k0,k1,k2,tq,k4,k5,k6,k7⟩:=ay.at HB.o;have HC:=ah (LB w0 wr K c e0 i hlt dN.o ig.o eT.o hlen HF.o);go_wp2_with fail
       refine HC.o.mono ?_;rintro e w2 ⟨rfl,hf,hx⟩;have mV:=ah (And.intro hf (And.intro (HX.o.trans hx) (And.intro (HB.o.but hx gZ) (HR.o.but hx Ho))));clear hf hx k0 k1 k2 k3 tq k4 k5 k6 k7;go_wp2
       exact ⟨⟨i+1,ae,by rw [HS.o];exact mV.o.1,mV.o.2.1,mV.o.2.2.1,mV.o.2.2.2,bf⟩,a_⟩
      .have t1:(e0==0)=false:=by simpa using h0
       have HE:=ah (qO.o h0);clear h0;obtain ⟨k0,k1,k2,tq,k4,k5,k6,k7⟩:=ay.at HB.o;go_wp2
       go_meet
       exact ⟨by rw [pY.o,<-HE.o];exact HF.o,HX.o,HB.o,HR.o⟩
     .obtain rfl:i=c.lines.length:=ae
      rw [<-pY.o]at hF;have HF:=ah hF;have HX:=ah hX;have HB:=ah hB;have HR:=ah hR
      clear hne hF hX hB hR;obtain ⟨k0,k1,k2,tq,k4,k5,k6,k7⟩:=ay.at HB.o;go_wp2
      go_meet
      exact ⟨HF.o,HX.o,HB.o,HR.o⟩
  case rest=>
   obtain ⟨hF,hX,hB,hR⟩:=hcut;generalize wc=V2 at*;have HF:=ah hF;have HB:=ah hB;have HR:=ah hR
   have kX:=ah (kX.o.trans hX);have ig:=ah (hX.ext ig.o dN.o)
   clear hF hX hB hR;obtain ⟨e3,he⟩: ∃e',e'=dF (cK c.aA (om c)) e2 c.aA.length:=⟨_,rfl⟩;have vt:=ah he;clear he
   go_upto_block 4 with fail
   go_cut [] (λwx=>FE wx K e3/\aB K V2 wx/\aT wx B 32 c.cells/\aT wx R 78 [i64 0,i64 0,i64 0])
   case first=>
    as_aux_lemma=>
     go_wp2
     go_loopw [7] (λii wx=> ∃i:Nat,i<=c.aA.length/\FE wx K (dF (cK c.aA (om c)) e2 i)/\aB K V2 wx/\aT wx B 32 c.cells/\aT wx R 78 [i64 0,i64 0,i64 0]/\ii= .int .i64 i) (λii _=>c.aA.length-(intOf ii).toNat)
     case atStart=>exact ⟨0,aZ,HF.o,aB.refl _ _,HB.o,HR.o,rfl⟩
     case round=>
      obtain ⟨i,hi,hF,hX,hB,hR,rfl⟩:=hrel;have hne:=λq=>iA (F:=cK c.aA (om c)) (λi e h=>dI (pK c) i e h) (e:=e2) (n:=c.aA.length) hi q;have k3:=hF.cell;have hlen:=oB.o.aA;by_cases hlt:i<c.aA.length
      .have HS:=ah (eo (cK c.aA (om c)) e2 i)
       rw [i7 hlt]at HS;generalize dF (cK c.aA (om c)) e2 i=e0 at*;have HF:=ah hF;have HX:=ah hX;have HB:=ah hB;have HR:=ah hR;have qO:=ah hne
       have ig:=ah (hX.ext ig.o dN.o);clear hF hX hB hR hne;by_cases h0:e0=0
       .have t1:(e0==0)=true:=by simpa using h0
        clear h0;obtain ⟨k0,k1,k2,tq,k4,k5,k6,k7⟩:=ay.at HB.o;have HC:=ah (LJ w0 wr K c e0 i hlt dN.o ig.o eT.o hlen HF.o);go_wp2_with fail
        refine HC.o.mono ?_;rintro e w2 ⟨rfl,hf,hx⟩;have mV:=ah (And.intro hf (And.intro (HX.o.trans hx) (And.intro (HB.o.but hx gZ) (HR.o.but hx Ho))));clear hf hx k0 k1 k2 k3 tq k4 k5 k6 k7;go_wp2
        exact ⟨⟨i+1,ae,by rw [HS.o];exact mV.o.1,mV.o.2.1,mV.o.2.2.1,mV.o.2.2.2,bf⟩,a_⟩
       .have t1:(e0==0)=false:=by simpa using h0
        have HE:=ah (qO.o h0);clear h0;obtain ⟨k0,k1,k2,tq,k4,k5,k6,k7⟩:=ay.at HB.o;go_wp2
        go_meet
        exact ⟨by rw [vt.o,<-HE.o];exact HF.o,HX.o,HB.o,HR.o⟩
      .obtain rfl:i=c.aA.length:=ae
       rw [<-vt.o]at hF;have HF:=ah hF;have HX:=ah hX;have HB:=ah hB;have HR:=ah hR
       clear hne hF hX hB hR;obtain ⟨k0,k1,k2,tq,k4,k5,k6,k7⟩:=ay.at HB.o;go_wp2
       go_meet
       exact ⟨HF.o,HX.o,HB.o,HR.o⟩
   case rest=>
    obtain ⟨hF,hX,hB,hR⟩:=hcut;generalize wc=V3 at*;have HF:=ah hF;have HB:=ah hB;have HR:=ah hR
    have kX:=ah (kX.o.trans hX);have ig:=ah (hX.ext ig.o dN.o)
    clear hF hX hB hR;obtain ⟨e4,he⟩: ∃e',e'=dF (cK c.stores (ku c)) e3 c.stores.length:=⟨_,rfl⟩;have BF:=ah he;clear he
    go_upto_block 6 with fail
    go_cut [] (λwx=>FE wx K e4/\aB K V3 wx/\aT wx B 32 c.cells/\aT wx R 78 [i64 0,i64 0,i64 0])
    case first=>
     as_aux_lemma=>
      go_wp2
      go_loopw [8] (λii wx=> ∃i:Nat,i<=c.stores.length/\FE wx K (dF (cK c.stores (ku c)) e3 i)/\aB K V3 wx/\aT wx B 32 c.cells/\aT wx R 78 [i64 0,i64 0,i64 0]/\ii= .int .i64 i) (λii _=>c.stores.length-(intOf ii).toNat)
      case atStart=>exact ⟨0,aZ,HF.o,aB.refl _ _,HB.o,HR.o,rfl⟩
      case round=>
       obtain ⟨i,hi,hF,hX,hB,hR,rfl⟩:=hrel;have hne:=λq=>iA (F:=cK c.stores (ku c)) (λi e h=>dI (nI c) i e h) (e:=e3) (n:=c.stores.length) hi q;have k3:=hF.cell;have hlen:=oB.o.stores;by_cases hlt:i<c.stores.length
       .have HS:=ah (eo (cK c.stores (ku c)) e3 i)
        rw [i7 hlt]at HS;generalize dF (cK c.stores (ku c)) e3 i=e0 at*;have HF:=ah hF;have HX:=ah hX;have HB:=ah hB;have HR:=ah hR;have qO:=ah hne
        have ig:=ah (hX.ext ig.o dN.o);clear hF hX hB hR hne;by_cases h0:e0=0
        .have t1:(e0==0)=true:=by simpa using h0
         clear h0;obtain ⟨k0,k1,k2,tq,k4,k5,k6,k7⟩:=ay.at HB.o;have HC:=ah (I7 w0 wr K c e0 i hlt dN.o ig.o eT.o hlen HF.o);go_wp2_with fail
         refine HC.o.mono ?_;rintro e w2 ⟨rfl,hf,hx⟩;have mV:=ah (And.intro hf (And.intro (HX.o.trans hx) (And.intro (HB.o.but hx gZ) (HR.o.but hx Ho))));clear hf hx k0 k1 k2 k3 tq k4 k5 k6 k7;go_wp2
         exact ⟨⟨i+1,ae,by rw [HS.o];exact mV.o.1,mV.o.2.1,mV.o.2.2.1,mV.o.2.2.2,bf⟩,a_⟩
        .have t1:(e0==0)=false:=by simpa using h0
         have HE:=ah (qO.o h0);clear h0;obtain ⟨k0,k1,k2,tq,k4,k5,k6,k7⟩:=ay.at HB.o;go_wp2
         go_meet
         exact ⟨by rw [BF.o,<-HE.o];exact HF.o,HX.o,HB.o,HR.o⟩
       .obtain rfl:i=c.stores.length:=ae
        rw [<-BF.o]at hF;have HF:=ah hF;have HX:=ah hX;have HB:=ah hB;have HR:=ah hR
        clear hne hF hX hB hR;obtain ⟨k0,k1,k2,tq,k4,k5,k6,k7⟩:=ay.at HB.o;go_wp2
        go_meet
        exact ⟨HF.o,HX.o,HB.o,HR.o⟩
    case rest=>
     obtain ⟨hF,hX,hB,hR⟩:=hcut;generalize wc=V4 at*;have HF:=ah hF;have HB:=ah hB;have HR:=ah hR
     have kX:=ah (kX.o.trans hX);have ig:=ah (hX.ext ig.o dN.o)
     clear hF hX hB hR;obtain ⟨e5,he⟩: ∃e',e'=dF (cK c.bh (vI c)) e4 c.bh.length:=⟨_,rfl⟩;have LM:=ah he;clear he
     go_upto_block 8 with fail
     go_cut [] (λwx=>FE wx K e5/\aB K V4 wx/\aT wx B 32 c.cells/\aT wx R 78 [i64 0,i64 0,i64 0])
     case first=>
      as_aux_lemma=>
       go_wp2
       go_loopw [9] (λii wx=> ∃i:Nat,i<=c.bh.length/\FE wx K (dF (cK c.bh (vI c)) e4 i)/\aB K V4 wx/\aT wx B 32 c.cells/\aT wx R 78 [i64 0,i64 0,i64 0]/\ii= .int .i64 i) (λii _=>c.bh.length-(intOf ii).toNat)
       case atStart=>exact ⟨0,aZ,HF.o,aB.refl _ _,HB.o,HR.o,rfl⟩
       case round=>
        obtain ⟨i,hi,hF,hX,hB,hR,rfl⟩:=hrel;have hne:=λq=>iA (F:=cK c.bh (vI c)) (λi e h=>dI (sH c) i e h) (e:=e4) (n:=c.bh.length) hi q;have k3:=hF.cell;have hlen:=oB.o.bh;by_cases hlt:i<c.bh.length
        .have HS:=ah (eo (cK c.bh (vI c)) e4 i)
         rw [i7 hlt]at HS;generalize dF (cK c.bh (vI c)) e4 i=e0 at*;have HF:=ah hF;have HX:=ah hX;have HB:=ah hB;have HR:=ah hR;have qO:=ah hne
         have ig:=ah (hX.ext ig.o dN.o);clear hF hX hB hR hne;by_cases h0:e0=0
         .have t1:(e0==0)=true:=by simpa using h0
          clear h0;obtain ⟨k0,k1,k2,tq,k4,k5,k6,k7⟩:=ay.at HB.o;have HC:=ah (Ol w0 wr K c e0 i hlt dN.o ig.o eT.o hlen HF.o);go_wp2_with fail
          refine HC.o.mono ?_;rintro e w2 ⟨rfl,hf,hx⟩;have mV:=ah (And.intro hf (And.intro (HX.o.trans hx) (And.intro (HB.o.but hx gZ) (HR.o.but hx Ho))));clear hf hx k0 k1 k2 k3 tq k4 k5 k6 k7;go_wp2
          exact ⟨⟨i+1,ae,by rw [HS.o];exact mV.o.1,mV.o.2.1,mV.o.2.2.1,mV.o.2.2.2,bf⟩,a_⟩
         .have t1:(e0==0)=false:=by simpa using h0
          have HE:=ah (qO.o h0);clear h0;obtain ⟨k0,k1,k2,tq,k4,k5,k6,k7⟩:=ay.at HB.o;go_wp2
          go_meet
          exact ⟨by rw [LM.o,<-HE.o];exact HF.o,HX.o,HB.o,HR.o⟩
        .obtain rfl:i=c.bh.length:=ae
         rw [<-LM.o]at hF;have HF:=ah hF;have HX:=ah hX;have HB:=ah hB;have HR:=ah hR
         clear hne hF hX hB hR;obtain ⟨k0,k1,k2,tq,k4,k5,k6,k7⟩:=ay.at HB.o;go_wp2
         go_meet
         exact ⟨HF.o,HX.o,HB.o,HR.o⟩
     case rest=>
      obtain ⟨hF,hX,hB,hR⟩:=hcut;generalize wc=V5 at*;have HF:=ah hF;have HB:=ah hB;have HR:=ah hR
      have kX:=ah (kX.o.trans hX);have ig:=ah (hX.ext ig.o dN.o)
      clear hF hX hB hR;obtain ⟨e6,he⟩: ∃e',e'=dF (cK c.outs (yZ c)) e5 c.outs.length:=⟨_,rfl⟩;have RH:=ah he;clear he
      go_upto_block 10 with fail
      go_cut [] (λwx=>FE wx K e6/\aB K V5 wx/\aT wx B 32 c.cells/\aT wx R 78 [i64 0,i64 0,i64 0])
      case first=>
       as_aux_lemma=>
        go_wp2
        go_loopw [10] (λii wx=> ∃i:Nat,i<=c.outs.length/\FE wx K (dF (cK c.outs (yZ c)) e5 i)/\aB K V5 wx/\aT wx B 32 c.cells/\aT wx R 78 [i64 0,i64 0,i64 0]/\ii= .int .i64 i) (λii _=>c.outs.length-(intOf ii).toNat)
        case atStart=>exact ⟨0,aZ,HF.o,aB.refl _ _,HB.o,HR.o,rfl⟩
        case round=>
         obtain ⟨i,hi,hF,hX,hB,hR,rfl⟩:=hrel;have hne:=λq=>iA (F:=cK c.outs (yZ c)) (λi e h=>dI (sI c) i e h) (e:=e5) (n:=c.outs.length) hi q;have k3:=hF.cell;have hlen:=oB.o.outs;by_cases hlt:i<c.outs.length
         .have HS:=ah (eo (cK c.outs (yZ c)) e5 i)
          rw [i7 hlt]at HS;generalize dF (cK c.outs (yZ c)) e5 i=e0 at*;have HF:=ah hF;have HX:=ah hX;have HB:=ah hB;have HR:=ah hR;have qO:=ah hne
          have ig:=ah (hX.ext ig.o dN.o);clear hF hX hB hR hne;by_cases h0:e0=0
          .have t1:(e0==0)=true:=by simpa using h0
           clear h0;obtain ⟨k0,k1,k2,tq,k4,k5,k6,k7⟩:=ay.at HB.o;have HC:=ah (FR w0 wr K c e0 i hlt dN.o ig.o eT.o hlen oB.o.moves HF.o);go_wp2_with fail
           refine HC.o.mono ?_;rintro e w2 ⟨rfl,hf,hx⟩;have mV:=ah (And.intro hf (And.intro (HX.o.trans hx) (And.intro (HB.o.but hx gZ) (HR.o.but hx Ho))));clear hf hx k0 k1 k2 k3 tq k4 k5 k6 k7;go_wp2
           exact ⟨⟨i+1,ae,by rw [HS.o];exact mV.o.1,mV.o.2.1,mV.o.2.2.1,mV.o.2.2.2,bf⟩,a_⟩
          .have t1:(e0==0)=false:=by simpa using h0
           have HE:=ah (qO.o h0);clear h0;obtain ⟨k0,k1,k2,tq,k4,k5,k6,k7⟩:=ay.at HB.o;go_wp2
           go_meet
           exact ⟨by rw [RH.o,<-HE.o];exact HF.o,HX.o,HB.o,HR.o⟩
         .obtain rfl:i=c.outs.length:=ae
          rw [<-RH.o]at hF;have HF:=ah hF;have HX:=ah hX;have HB:=ah hB;have HR:=ah hR
          clear hne hF hX hB hR;obtain ⟨k0,k1,k2,tq,k4,k5,k6,k7⟩:=ay.at HB.o;go_wp2
          go_meet
          exact ⟨HF.o,HX.o,HB.o,HR.o⟩
      case rest=>
       obtain ⟨hF,hX,hB,hR⟩:=hcut;generalize wc=V6 at*;have HF:=ah hF;have HB:=ah hB;have HR:=ah hR
       have kX:=ah (kX.o.trans hX);have ig:=ah (hX.ext ig.o dN.o)
       clear hF hX hB hR;obtain ⟨e7,he⟩: ∃e',e'=dF (mR c) e6 c.hours.toNat:=⟨_,rfl⟩;have RJ:=ah he;clear he;have abV:=ig
       have xj:e6=0->(1<=c.hours/\c.hours<=24)/\ ∀i (hi:i<c.lines.length),(0<=c.lines[i].dL/\c.lines[i].dL<c.aF.length)/\(0<=c.lines[i].ld/\c.lines[i].ld<c.aF.length):=λh=>by
        rw [RH.o]at h;have h5:=(gQ (λi e h=>dI (sI c) i e h) h).1;rw [LM.o]at h5;have h4:=(gQ (λi e h=>dI (sH c) i e h) h5).1;rw [BF.o]at h4;have h3:=(gQ (λi e h=>dI (nI c) i e h) h4).1;rw [vt.o]at h3;have h2:=(gQ (λi e h=>dI (pK c) i e h) h3).1;rw [pY.o]at h2;have h1:=uV (c:=c) h2;have h0:=h1.1;rw [nX.o]at h0;have hf:=(gQ (λi e h=>dI (sG c) i e h) h0).1;rw [HQ0.o]at hf;exact ⟨DG hf,h1.2⟩
       have HGD:=ah xj;clear xj
       go_upto_block 12 with fail
       go_cut [] (λwx=>FE wx K e7/\aB K V6 wx/\aT wx B 32 c.cells/\aT wx R 78 [i64 0,i64 0,i64 0])
       case first=>
        as_aux_lemma=>
         go_wp2
         go_loopw [11] (λii wx=> ∃h:Nat,h<=c.hours.toNat/\FE wx K (dF (mR c) e6 h)/\aB K V6 wx/\aT wx B 32 c.cells/\aT wx R 78 [i64 0,i64 0,i64 0]/\ii= .int .i64 h) (λii _=>c.hours.toNat-(intOf ii).toNat)
         case atStart=>exact ⟨0,aZ,HF.o,aB.refl _ _,HB.o,HR.o,rfl⟩
         case round=>
             obtain ⟨h,hh,hF,hX,hB,hR,rfl⟩:=hrel;have hne:=λq=>iA (F:=mR c) (pL c) (e:=e6) (n:=c.hours.toNat) hh q;have abW:=ah (show h=c.hours.toNat->dF (mR c) e6 h=e7 from λq=>by rw [q,RJ.o]);have hz:=λq=>(gQ (F:=mR c) (pL c) (e:=e6) (n:=h) q).1;have k3:=hF.cell;have HS:=ah (eo (mR c) e6 h);generalize dF (mR c) e6 h=e0 at*;have ig:=ah (hX.ext ig.o dN.o);have vZ:=ah hF;have BH:=ah hX;have Qf:=ah hB;have WA:=ah hR;have qO:=ah hne
             clear hF hX hB hR hne;by_cases h0:e0=0
             .have t1:(e0==0)=true:=by simpa using h0
              obtain ⟨⟨g1,g2⟩,IJ⟩:=HGD.o (hz h0);have Hp:=ah IJ;have Zn:=ah h0;clear hz IJ h0;by_cases hlt:h<c.hours.toNat
              .have th:decide ((h:Int)<c.hours)=true:=by simp;omega
               obtain ⟨k0,k1,k2,tq,k4,k5,k6,k7⟩:=ay.at Qf.o;have HP:=ah (Jc w0 wr c (h:Int) ig.o eT.o oB.o.lines);go_wp2_with fail
               refine HP.o.mono ?_;rintro e w2 ⟨pa,pc,at',abX,rfl,yv,hat,x2,hfp,TJ⟩;rw [(xE Hp.o (h:Int)).2]at yv;have WG:=(xE Hp.o (h:Int)).1;have Sn:=xG c (h:Int);have hEl:(j5 c (h:Int)).length<=1000000:=by rw [Sn];exact Nat.le_trans (i5 _ _ _) oB.o.lines
               have rP:=i5 c (h:Int) c.lines.length;have Nn:=oB.o.lines;have HFH:Hid (mR c h e0=dF (cK c.outs λx _ e=>nd e (!ky c h x) 13) e0 c.outs.length):=rfl;have HSP:Hid (∀x,ky c h x=LR c.aF.length (j5 c h) (aR (fW (dz c h c.lines.length) x.lines (dz c h c.lines.length).length))):=λ_=>rfl;obtain ⟨Fo,hFo⟩: ∃Fo,Fo=(λ(x:cJ) (_:Nat) (e:Int)=>nd e (!ky c h x) 13):=⟨_,rfl⟩;have HFo:Hid (∀x i e,Fo x i e=nd e (!ky c h x) 13):=λx i e=>by rw [hFo]
               rw [<-hFo]at HFH;clear hFo;have WH:=HSP.o;generalize j5 c (h:Int)=E at*;have D8:=jO c (h:Int) c.lines.length;generalize dz c (h:Int) c.lines.length=l at*;have ab0:=ah Sn;clear Sn
               have Cl:=ah yv;have TK:=ah hat;have HED:=ah WG;have OU:=ah WH
               have Iq:=ah (vZ.o.ext x2);have ud:=ah (Qf.o.ext x2);have nk:=ah (WA.o.ext x2);have eR:=ah (BH.o.trans (x2.but K))
               have Nq:=vZ.o.lt;have HPK:Hid (∀p,pa=some p->p.block≠K):=λp hp=>bA (hfp p hp);have Zt:Hid (∀p,at'=some p->p.block≠K):=λp hp=>bA (TJ p hp);have sy:=hat.le;have Dw:=hat.cap
               rw [aN]at sy;clear WH yv hat WG x2 hfp TJ k0 k1 k2 tq k4 k5 k6 k7 k3 HP vZ BH Qf WA Hp D8 Nq;go_wp2
               go_loopw [14] (λii wx=> ∃i:Nat,i<=c.outs.length/\FE wx K (dF (cK c.outs Fo) e0 i)/\aB K V6 wx/\aT wx B 32 c.cells/\aT wx R 78 [i64 0,i64 0,i64 0]/\ct wx 2 pa pc (fz E)/\aS wx at' abX (aR l)/\ii= .int .i64 i) (λii _=>c.outs.length-(intOf ii).toNat)
               case atStart=>exact ⟨0,aZ,Iq.o,eR.o,ud.o,nk.o,Cl.o,TK.o,rfl⟩
               case round=>
                obtain ⟨i,hi,hF,hX,hB,hR,yv,hat,rfl⟩:=hrel;clear Iq eR ud nk Cl TK;have hlen:=oB.o.outs;by_cases hlt:i<c.outs.length
                .have HSo:=ah (eo (cK c.outs Fo) e0 i)
                 rw [i7 hlt,HFo.o]at HSo;have ig:=ah (hX.ext abV.o dN.o);obtain ⟨ob,oo,OQ,-,o1,-,-⟩:=(eT.o.outs.ext ig.o).outs i hlt;have tQ:=(eT.o.o c.outs[i] (List.getElem_mem hlt)).2.1
                 have aip:ob≠K:=by
                  obtain ⟨b3,o3,h3,q0,-⟩:=eT.o.outs.outs i hlt;rw [OQ]at h3;cases h3
                  have:=cY q0;simp only at this;have:=dN.o;omega
                 generalize dF (cK c.outs Fo) e0 i=e1 at*;have WI:=ah (OU.o c.outs[i]);obtain ⟨x,kJ⟩: ∃x,x=c.outs[i]:=⟨_,rfl⟩;rw [<-kJ]at o1 tQ HSo WI;obtain ⟨-,-,k2,-,-,-,-,k7⟩:=ay.at hB;have HF:=ah hF;have HX:=ah hX;have HB:=ah hB;have HR:=ah hR;have Cl:=ah yv;have TK:=ah hat
                 have WJ:=ah tQ;have Zq:=ah OQ
                 have iM:(0:Int)<=(i:Int):=ae;have iK:(i:Int)<(c.outs.length:Int):=ae;have O1:=ah o1;clear hF hX hB hR yv hat tQ OQ kJ o1;obtain ⟨wo,BP⟩: ∃wo:World,wo=wr:=⟨_,rfl⟩;subst BP;go_wp2
                 go_loopw [15,16] (λv kk wy=> ∃k:Nat,k<=l.length/\aL wy wo.heap.size 3 1 v (gp (fW l x.lines k))/\Ext wo wy/\kk= .int .i64 k) (λ_ kk _=>l.length-(intOf kk).toNat)
                 case atStart=>exact ⟨0,aZ,aL.nil _ _ _ _,ar,rfl⟩
                 case round=>
                  obtain ⟨k,hk,hown,hE,rfl⟩:=hrel;have HO:=ah hown;clear hown k2 k7;by_cases hlk:k<l.length
                  .obtain ⟨ab,ao,hab,i0⟩:=(TK.o.ext hE).cell k (by rw [aN];exact hlk)
                   have Tv:(aR l)[k]'(by rw [aN];exact hlk)=((l[k]:Nat):Int):=by simp [aR]
                   rw [Tv]at i0
                   have HST:Hid (fW l x.lines (k+1)=if hasB x.lines ((l[k]:Nat):Int)=true then fW l x.lines k++ [k]else fW l x.lines k):=by
                        show _=_;have:l.getD k 0=l[k]:=by rw [List.getD_eq_getElem?_getD,List.getElem?_eq_getElem hlk];rfl
                        rw [<-this];rfl
                   have Jh:=ah (qa l x.lines k);generalize fW l x.lines k=gs at*;obtain ⟨lk,WK⟩: ∃lk,lk=l[k]:=⟨_,rfl⟩;rw [<-WK]at i0 HST;have TA:=ah (λU (hU:Ext wr U)=>Bp U x.la x.lc x.lines (lk:Int) (((WJ.o.ext ig.o).ext hE).ext hU));obtain ⟨-,-,-,-,-,-,-,k7⟩:=ay.at (HB.o.ext hE);have o1:=aC hE O1.o;have Tl:(0:Int)<=(k:Int):=ae;have Tm:(k:Int)<(l.length:Int):=ae;have HE:=ah hE;have vY:=hE.size
                   have Cn:=ah hab;clear hE WK Tv hab;rw [Cn.o];rcases Bool.eq_false_or_eq_true (hasB x.lines (lk:Int))with hq|hq
                   .rw [hq]at TA HST
                    clear hq
                    have HOW:Hid (wr.ownsRow wo.heap.size 3 1 u15 gs.length (gp gs).flatten):=by
                        have h5:=HO.o.own;rw [eh]at h5;exact h5
                    go_wp2_with fail
                    refine aO (λw'=>w'.cell? ⟨B,7,none⟩=some (.slice c.oa c.outs.length c.oc)/\w'.cell? ⟨ob,oo+i*4+1,none⟩=some (.slice x.la x.lines.length x.lc)/\w'.cell? ⟨ab,ao+k,none⟩=some (i64 (lk:Int))) (λw'=>True) (λi=>false) ax (⟨aC (Ext.refl wr).drew k7,aC (Ext.refl wr).drew o1,aC (Ext.refl wr).drew i0⟩) (trivial) (λaD ai=> ?_);refine aJ 0 aD ai ?_;refine aJ 1 aD ai ?_;refine aJ 2 aD ai ?_ (v:= .int .i64 (i:Int));refine aJ 3 aD ai ?_ (hy:=by rintro w ⟨e0,e1,e2⟩;have OQ:=Zq.o;go_simp;try rfl);refine aJ 4 aD ai ?_;refine aJ 5 aD ai ?_;refine aJ 6 aD ai ?_;refine aJ 7 aD ai ?_ (v:= .int .i64 (k:Int));refine aJ 8 aD ai ?_;refine aJ 9 aD ai ?_ (v:=i64 (lk:Int));refine eI 10 rfl (λKc hK=> ?_);go_simp;refine (TA.o wr.drew (Ext.refl wr).drew).mono ?_;rintro e w9 ⟨rfl,WY⟩;rw [WY];clear WY;refine hK.o _ _ (⟨aC (Ext.refl wr).drew k7,aC (Ext.refl wr).drew o1,aC (Ext.refl wr).drew i0⟩) (trivial) (λaD ai=> ?_);clear hK Kc;try simp only [sS]
                    refine aI ax ?_ _;clear aD ai;clear k7 o1 i0;go_wp2_with (at_builtin;refine bC _ rfl (.tmp 194) (.tmp 196) 22 rfl wo.heap.size 3 (.int .i64 0) 1 8 underlying22 Tryz.info_int rfl aq u15 gs.length (gp gs).flatten rfl ?c1 (some ⟨wr.heap.size,0,none⟩) 1 1 [i64 (k:Int)] rfl rfl ?c2 ?c3 ?c4 ?c5 aq ?c6 ?_;rotate_right;intro v1 w5 ho he hb hz hv)
                    case c1=>exact bZ HOW.o (ar.drew.alloc _)
                    case c2=>exact λ_=>⟨_,rfl,dH wr.drew 3 [i64 (k:Int)]⟩
                    case c3=>intro u hu;rw [List.mem_singleton]at hu;subst hu;rfl
                    case c4=>intro e;cases e
                    case c5=>have:=Jh.o;omega
                    case c6=>exact Nat.le_trans vY ((Ext.refl wr).drew.alloc _).size
                    have x5:Ext wo w5:=he.o wo (HE.o.drew.alloc _) bY;have jl:=HO.o.snoc (w':=w5) (v':=v1) (r:= [i64 (k:Int)]) rfl (by rw [eh];exact ho.o);rw [<-nD]at jl;exact ⟨⟨k+1,ae,by rw [HST.o];simpa using jl,x5,bf⟩,a_⟩
                   .rw [hq]at TA HST
                    clear hq;go_wp2_with fail
                    refine aO (λw'=>w'.cell? ⟨B,7,none⟩=some (.slice c.oa c.outs.length c.oc)/\w'.cell? ⟨ob,oo+i*4+1,none⟩=some (.slice x.la x.lines.length x.lc)/\w'.cell? ⟨ab,ao+k,none⟩=some (i64 (lk:Int))) (λw'=>True) (λi=>false) ax (⟨aC (Ext.refl wr).drew k7,aC (Ext.refl wr).drew o1,aC (Ext.refl wr).drew i0⟩) (trivial) (λaD ai=> ?_);refine aJ 0 aD ai ?_;refine aJ 1 aD ai ?_;refine aJ 2 aD ai ?_ (v:= .int .i64 (i:Int));refine aJ 3 aD ai ?_ (hy:=by rintro w ⟨e0,e1,e2⟩;have OQ:=Zq.o;go_simp;try rfl);refine aJ 4 aD ai ?_;refine aJ 5 aD ai ?_;refine aJ 6 aD ai ?_;refine aJ 7 aD ai ?_ (v:= .int .i64 (k:Int));refine aJ 8 aD ai ?_;refine aJ 9 aD ai ?_ (v:=i64 (lk:Int));refine eI 10 rfl (λKc hK=> ?_);go_simp;refine (TA.o wr.drew (Ext.refl wr).drew).mono ?_;rintro e w9 ⟨rfl,WY⟩;rw [WY];clear WY;refine hK.o _ _ (⟨aC (Ext.refl wr).drew k7,aC (Ext.refl wr).drew o1,aC (Ext.refl wr).drew i0⟩) (trivial) (λaD ai=> ?_);clear hK Kc;try simp only [sS]
                    refine aI ax ?_ _;clear aD ai;clear k7 o1 i0;go_wp2
                    exact ⟨⟨k+1,ae,by rw [HST.o];simpa using HO.o.ext (Ext.refl wr).drew,HE.o.drew,bf⟩,a_⟩
                  .obtain rfl:k=l.length:=ae
                   obtain ⟨ga,gc,rfl,hS,-⟩:=HO.o.recs aq;rw [eh,<-aN (fW l x.lines l.length)];rw [nE]at hS;have hgI:=aS.nC hS (lY (um l x.lines l.length) ae);have hSC:=yX wr c.aF.length pa pc E ga gc (aR (fW l x.lines l.length)) oB.o.aF hEl (Cl.o.ext hE) HED.o hgI;rw [ab0.o]at hSC;have DN:=ah hSC;obtain ⟨-,-,k2,-,-,-,-,-⟩:=ay.at (HB.o.ext hE);have Wz:=ah (HF.o.ext hE);have OT:=ah (HB.o.ext hE);have sw:=ah (HR.o.ext hE);have kR:=ah (HX.o.trans (hE.but K));have ab3:=ah (Cl.o.ext hE);have ab4:=ah (TK.o.ext hE)
                   clear hS hgI hSC hE HO HF HB HR HX Cl TK;go_wp2_with fail
                   refine DN.o.mono ?_;rintro e w6 ⟨rfl,x6⟩;rw [<-WI.o];have FT:=ah x6;clear x6 k2;go_wp2_with fail
                   refine (cZ _ K _ _ _ _ _ _ (Wz.o.ext FT.o)).mono ?_;rintro e w7 ⟨rfl,hf,hx⟩;rw [<-HSo.o]at hf;have mV:=ah (And.intro hf (And.intro ((kR.o.trans (FT.o.but K)).trans hx) (And.intro ((OT.o.ext FT.o).but hx gZ) (And.intro ((sw.o.ext FT.o).but hx Ho) (And.intro (ct.but (ab3.o.ext FT.o) hx HPK.o) ((ab4.o.ext FT.o).eH hx Zt.o))))));clear hf hx;go_wp2
                   exact ⟨⟨i+1,ae,mV.o.1,mV.o.2.1,mV.o.2.2.1,mV.o.2.2.2.1,mV.o.2.2.2.2.1,mV.o.2.2.2.2.2,bf⟩,a_⟩
                .obtain rfl:i=c.outs.length:=ae
                 obtain ⟨-,-,-,-,-,-,-,k7⟩:=ay.at hB;have mV:=ah (And.intro hF (And.intro hX (And.intro hB hR)));clear hF hX hB hR yv hat;go_wp2
                 exact ⟨⟨h+1,ae,by rw [HS.o,HFH.o];exact mV.o.1,mV.o.2.1,mV.o.2.2.1,mV.o.2.2.2,bf⟩,a_⟩
              .have hq:=abW.o ae
               have HE:=ah hq;have th:decide ((h:Int)<c.hours)=false:=by simp;omega
               obtain ⟨k0,-⟩:=ay.at Qf.o;clear hq;go_wp2
               go_meet
               exact ⟨by rw [<-HE.o];exact vZ.o,BH.o,Qf.o,WA.o⟩
             .have t1:(e0==0)=false:=by simpa using h0
              have HE:=ah (qO.o h0);clear h0 hz;obtain ⟨k0,-⟩:=ay.at Qf.o;rcases Bool.eq_false_or_eq_true (decide ((h:Int)<c.hours))with th|th
              .go_wp2
               go_meet
               exact ⟨by rw [RJ.o,<-HE.o];exact vZ.o,BH.o,Qf.o,WA.o⟩
              .go_wp2
               go_meet
               exact ⟨by rw [RJ.o,<-HE.o];exact vZ.o,BH.o,Qf.o,WA.o⟩
       case rest=>
        obtain ⟨hF,hX,hB,hR⟩:=hcut;generalize wc=V7 at*;have HF:=ah hF;have HB:=ah hB;have HR:=ah hR
        have kX:=ah (kX.o.trans hX);have ig:=ah (hX.ext ig.o dN.o)
        have hce:e7=ce:=by
         rw [Mp.o];unfold cE xC uT uS l9 o0 mv oZ
         rw [<-HQ0.o,<-nX.o,<-pY.o,<-vt.o,<-BF.o,<-LM.o,<-RH.o,<-RJ.o]
        rw [hce]at hF;obtain ⟨fk,fi,ff,hFA⟩:=hF;obtain ⟨c0,c1,c2,c3,-⟩:=G' hFA;have r0:V7.cell? ⟨R,0,none⟩=some (i64 0):=(hR.cell 0).trans rfl;have r1:V7.cell? ⟨R,1,none⟩=some (i64 0):=(hR.cell 1).trans rfl;have r2:V7.cell? ⟨R,2,none⟩=some (i64 0):=(hR.cell 2).trans rfl;have q0:V7.frozen? ⟨R,0,none⟩=false:=hR.frozen 0;have q1:V7.frozen? ⟨R,1,none⟩=false:=hR.frozen 1;have q2:V7.frozen? ⟨R,2,none⟩=false:=hR.frozen 2;have B4: ∀o,(⟨R,o,none⟩:Addr).block≠K:=λo=>Ho;have Mq:=ah (((hR.set 0 (i64 fk)).set 1 (i64 fi)).set 2 (i64 ff));have HKF:Hid (PL (((V7.setCell ⟨R,0,none⟩ (i64 fk)).setCell ⟨R,1,none⟩ (i64 fi)).setCell ⟨R,2,none⟩ (i64 ff)) K ⟨fk,fi,ff,ce⟩):=((hFA.other _ _ (B4 0)).other _ _ (B4 1)).other _ _ (B4 2);obtain ⟨d0,d1,d2,d3,-⟩:=G' HKF.o;obtain ⟨s0,s1,s2⟩:(((V7.setCell ⟨R,0,none⟩ (i64 fk)).setCell ⟨R,1,none⟩ (i64 fi)).setCell ⟨R,2,none⟩ (i64 ff)).drew.cell? ⟨R,0,none⟩=some (i64 fk)/\(((V7.setCell ⟨R,0,none⟩ (i64 fk)).setCell ⟨R,1,none⟩ (i64 fi)).setCell ⟨R,2,none⟩ (i64 ff)).drew.cell? ⟨R,1,none⟩=some (i64 fi)/\(((V7.setCell ⟨R,0,none⟩ (i64 fk)).setCell ⟨R,1,none⟩ (i64 fi)).setCell ⟨R,2,none⟩ (i64 ff)).drew.cell? ⟨R,2,none⟩=some (i64 ff):=⟨(Mq.o.cell 0).trans rfl,(Mq.o.cell 1).trans rfl,(Mq.o.cell 2).trans rfl⟩;have rZ:Hid (Ext w0 (((V7.setCell ⟨R,0,none⟩ (i64 fk)).setCell ⟨R,1,none⟩ (i64 fi)).setCell ⟨R,2,none⟩ (i64 ff)).drew):=(((ig.o.setCell (p:=⟨R,0,none⟩) D7.o _).setCell (p:=⟨R,1,none⟩) D7.o _).setCell (p:=⟨R,2,none⟩) D7.o _).drew;clear hX hB hR hFA hce B4;go_wp2_with fail
        refine aO (λw'=>w'.cell? ⟨K,0,none⟩=some (i64 fk)/\w'.cell? ⟨K,1,none⟩=some (i64 fi)/\w'.cell? ⟨K,2,none⟩=some (i64 ff)/\w'.cell? ⟨K,3,none⟩=some (i64 ce)) (λw'=>True) (λi=>false) ax (⟨c0,c1,c2,c3⟩) (trivial) (λaD ai=> ?_);refine aJ 0 aD ai ?_;refine aJ 1 aD ai ?_;refine aJ 2 aD ai ?_;refine aJ 3 aD ai ?_ (v:= .agg #[i64 fk,i64 fi,i64 ff]);refine aJ 4 aD ai ?_;refine aJ 5 aD ai ?_;refine aJ 6 aD ai ?_;refine aJ 7 aD ai ?_ (v:=i64 ce);refine eI 8 rfl (λKc hK=> ?_);go_simp;refine hK.o _ _ (⟨d0,d1,d2,d3⟩) (trivial) (λaD ai=> ?_);clear hK Kc;try simp only [sS]
        refine aJ 9 aD ai ?_ (v:=i64 ce);refine aI ax ?_ _;clear aD ai;go_wp2
        exact bodyPost_ret (v:= .tuple #[.agg #[i64 fk,i64 fi,i64 ff],i64 ce]) (by simp [results,results27,go_sem,s0,s1,s2]) rfl ⟨fk,fi,ff,rfl,rZ.o⟩
