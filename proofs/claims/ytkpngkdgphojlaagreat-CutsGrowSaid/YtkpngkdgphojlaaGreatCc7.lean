/- Texts of the proof. -/
import Derived.Test.YtkpngkdgphojlaaGreatCc6
set_option linter.all false
namespace Go.Proofs.YtkpngkdgphojlaaGreat
open Go.RowKit
def lQ (c:aq) (x:aF) (prev:List ByteArray) (e:Int):Int:=nd (nd (nd (nd (nd (j2 (nd (nd (nd (nd (nd (nd (nd (nd (nd (nd (nd (nd (nd (jI (nd (nd (kD (eG e x.name prev) c x.cX) (aY 0 1048576 [x.min]) 3) (aY x.min 1048576 [x.max]) 3) x) (aY 0 1048576 [x.cg]) 3) (aY 0 1048576 [x.cj]) 3) (aY 0 1048576 [x.a_]) 3) (aY x.min x.max [x.aW]) 3) (aY x.min x.max [x.bf]) 3) (aY 0 24 [x.bQ]) 3) (aY 0 24 [x.bg]) 3) (aY 0 24 [x.startTime]) 3) (aY 0 1048576 [x.bA]) 3) (aY 0 1048576 [x.bh]) 3) (aY 0 24 [x.bj]) 3) (aY 0 1048576 [x.az]) 3) (aY 0 1048576 [x.aJ]) 3) c x.away) (aY 0 2 [x.state]) 12) ((x.state !=1)||decide (0<x.startTime)) 16) (aY 1 48 [x.hours]) 3) ((x.state !=1)||decide (x.hours≤x.startTime)) 3) (if(x.state==2)=true then aY x.min x.max [x.output]else(x.output==0)) 3
set_option maxHeartbeats 4000000 in
set_option maxRecDepth 100000 in
theorem FZ (w0 V:World) (K:Nat) (c:aq) (e:Int) (i:Nat) (hi:i<c.aj.length) (hK:w0.heap.size≤K) (hV:Ext w0 V) (hc:aT w0 c) (hn:c.aj.length≤1000000) (h:FE V K e):
 Calls Tryz.prog 58 #[.pointer (some ⟨K,0,none⟩),.agg (C8 c),i64 i] V fun e' w'=>rG V K (lQ c c.aj[i] ((c.aj.take i).map aF.name) e) e' w':=by
 try unfold C8
 have vB:=h.lt;have hr:=hc.aj;have hle:=hr.le;have di:=hr.cap
 rw [List.length_map]at hle;obtain ⟨b,o,ha,eM⟩:=(hr.ext hV).adds i (by simpa using hi);rw [List.getElem_map]at eM;have aP:=hc.unit c.aj[i] (List.getElem_mem hi);have wB:=ae (nV c);obtain ⟨prev,iG⟩: ∃prev,prev=(c.aj.take i).map aF.name:=⟨_,rfl⟩;obtain ⟨x,eU⟩: ∃x,x=c.aj[i]:=⟨_,rfl⟩;have qa:Hid (∃h:i<(c.aj.map aF.name).length,(c.aj.map aF.name)[i]=x.name∧(c.aj.map aF.name).take i=prev):=⟨by simpa using hi,by subst eU;simp,by subst iG;rw [List.map_take]⟩;have sZ:Hid ((c.aj.map aF.name).length≤1000000):=by(show _≤_;rw [List.length_map];exact hn)
 rw [←iG,←eU];rw [←eU]at eM aP;clear iG eU hn;have td:=ae (aP.2.2.2.2 x.cX (by simp));have LN:=ae (aP.2.2.2.2 x.min (by simp));have LO:=ae (aP.2.2.2.2 x.max (by simp));have Dr:=ae (aP.2.2.2.2 x.cg (by simp));have Ds:=ae (aP.2.2.2.2 x.cj (by simp));have yB:=ae (aP.2.2.2.2 x.a_ (by simp));have wP:=ae (aP.2.2.2.2 x.aW (by simp));have yC:=ae (aP.2.2.2.2 x.bf (by simp));have Dt:=ae (aP.2.2.2.2 x.bQ (by simp));have yD:=ae (aP.2.2.2.2 x.bg (by simp));have wQ:=ae (aP.2.2.2.2 x.startTime (by simp));have AP:=ae (aP.2.2.2.2 x.bA (by simp));have yE:=ae (aP.2.2.2.2 x.bh (by simp));have yF:=ae (aP.2.2.2.2 x.bj (by simp));have AQ:=ae (aP.2.2.2.2 x.az (by simp));have rM:=ae (aP.2.2.2.2 x.aJ (by simp));have F0:=ae (aP.2.2.2.2 x.state (by simp));have F2:=ae (aP.2.2.2.2 x.hours (by simp));have Du:=ae (aP.2.2.2.2 x.output (by simp));have wC:=ae (aP.2.1);have TV:=ae aP.2.2.1;have LL:=ae aP.2.2.2.1;have EH:=ae aP.1;have HV:=ae hV;have dB:=ae hc;have HH:=ae h;have bB:=ae hK
 have fM:(0:Int)≤(i:Int):=by omega
 have fH:(i:Int)<(c.aj.length:Int):=by omega
 unfold lQ;obtain ⟨ob,Pf⟩: ∃ob,ob=(if(x.state==2)=true then aY x.min x.max [x.output]else(x.output==0)):=⟨_,rfl⟩;rw [←Pf];have Xq:=ae Pf;clear Pf;have j3:=ae ha;clear hr h hc hV hK aP ha;go_enter Tryz.func58,Tryz.ntmps58
 go_upto_region 1 with fail
 obtain ⟨W0,hW,x0,Z0,A0⟩:=aB V 32 c.cells;rw [show V.alloc (.cells (C8 c) 32)=W0 from hW.symm];clear hW;obtain ⟨B,hB⟩: ∃B,B=V.heap.size:=⟨_,rfl⟩;rw [←hB]at A0⊢;have bL:B≠K:=by omega
 obtain ⟨-,-,k2,k3,k4,k5,k6,k7⟩:=aq.at A0;rw [j3.out]at k4;have HAD:Hid (∀j v,[.string x.name,i64 x.cX,i64 x.min,i64 x.max,.slice x.sa x.aI.length x.sc,i64 x.cg,i64 x.cj,i64 x.a_,i64 x.aW,i64 x.bf,i64 x.bQ,i64 x.bg,i64 x.startTime,i64 x.bA,i64 x.bh,i64 x.bj,i64 x.az,i64 x.aJ,.slice x.aa x.away.length x.ac,i64 x.state,i64 x.hours,i64 x.output][j]?=some v→W0.cell? (Addr.add ⟨b,o+i*22,none⟩ j)=some v):=fun j v hv=>ai x0 (eM j v hv);have ju:=ae A0;have X0:=ae x0;have kr:=ae hB
 clear A0 Z0 x0 hB k2 k3 k5 k6 k7;go_upto_region 2 with(first|(refine aQ rfl 67 _ rfl ⟨b,o+i*22,none⟩ rfl [.string x.name,i64 x.cX,i64 x.min,i64 x.max,.slice x.sa x.aI.length x.sc,i64 x.cg,i64 x.cj,i64 x.a_,i64 x.aW,i64 x.bf,i64 x.bQ,i64 x.bg,i64 x.startTime,i64 x.bA,i64 x.bh,i64 x.bj,i64 x.az,i64 x.aJ,.slice x.aa x.away.length x.ac,i64 x.state,i64 x.hours,i64 x.output] _ HAD.out Tryz.underlying67 rfl (by kernel_rfl) ?_)|(refine bD rfl 67 _ _ rfl _ [.string x.name,i64 x.cX,i64 x.min,i64 x.max,.slice x.sa x.aI.length x.sc,i64 x.cg,i64 x.cj,i64 x.a_,i64 x.aW,i64 x.bf,i64 x.bQ,i64 x.bg,i64 x.startTime,i64 x.bA,i64 x.bh,i64 x.bj,i64 x.az,i64 x.aJ,.slice x.aa x.away.length x.ac,i64 x.state,i64 x.hours,i64 x.output] rfl rfl (by kernel_rfl) rfl rfl ?_))
 obtain ⟨W1,hW1,x1,Z1,A1⟩:=aB W0 67 x.cells;rw [show W0.alloc (.cells #[.string x.name,i64 x.cX,i64 x.min,i64 x.max,.slice x.sa x.aI.length x.sc,i64 x.cg,i64 x.cj,i64 x.a_,i64 x.aW,i64 x.bf,i64 x.bQ,i64 x.bg,i64 x.startTime,i64 x.bA,i64 x.bh,i64 x.bj,i64 x.az,i64 x.aJ,.slice x.aa x.away.length x.ac,i64 x.state,i64 x.hours,i64 x.output] 67)=W1 from hW1.symm];clear hW1 k4 eM HAD;obtain ⟨X,hX⟩: ∃X,X=W0.heap.size:=⟨_,rfl⟩;rw [←hX]at A1⊢;have f_:X≠K:=by have:=X0.out.size;omega
 have HF:=ae ((HH.out.ext X0.out).ext x1);have HX:=ae A1;have HB:=ae (ju.out.ext x1);have bV:Hid (ak K V W1):=(X0.out.trans x1).but K;have bw:Hid (Ext w0 W1):=(HV.out.trans X0.out).trans x1;clear hX A1 Z1 x1 HH ju X0 kr j3 fM fH;obtain ⟨e1,he⟩: ∃e',e'=eG e x.name prev:=⟨_,rfl⟩;have kt:=ae he;clear he;go_upto_region 2 with fail
 go_cut [] (fun wx=>FE wx K e1∧ak K W1 wx∧aG wx B 32 c.cells∧aG wx X 67 x.cells)
 case first=>
  as_aux_lemma=>
   obtain ⟨k0,k1,k2,k3,k4,k5,k6,k7⟩:=aq.at HB.out;go_wp2_with fail
   refine (kG w0 W1 K c _ 3 i prev _ x.name wB.out (by decide) qa.out sZ.out bB.out bw.out dB.out EH.out HF.out).mono ?_;rintro e w2 ⟨rfl,hf,hx⟩;have bO:ak K W1 w2:=hx;have hf':FE w2 K e1:=by(rw [kt.out];exact hf)
   have hA':=HX.out.but hx f_;have aM:=HB.out.but hx bL
   have HR:=ae (And.intro hf' (And.intro bO (And.intro aM hA')));clear hf hx hf' bO hA' aM k0 k1 k2 k3 k4 k5 k6 k7;go_wp2_with fail
   go_meet
   exact HR.out
 case rest=>
  obtain ⟨hF,hx,aM,hA'⟩:=hcut;generalize wc=V1 at*;have HF:=ae hF;have HB:=ae aM;have HX:=ae hA'
  have bV:=ae (bV.out.trans hx);have bw:=ae (hx.ext bw.out bB.out)
  clear hF hx aM hA';obtain ⟨e2,he⟩: ∃e',e'=kD e1 c x.cX:=⟨_,rfl⟩;have j4:=ae he;clear he;go_upto_region 3 with fail
  go_cut [] (fun wx=>FE wx K e2∧ak K V1 wx∧aG wx B 32 c.cells∧aG wx X 67 x.cells)
  case first=>
   as_aux_lemma=>
    obtain ⟨k0,k1,k2,k3,k4,k5,k6,k7⟩:=aq.at HB.out;have c1:=HX.out.cl 1 (i64 x.cX) rfl;go_wp2_with fail
    refine (oT w0 V1 K c _ x.cX _ _ _ bw.out dB.out td.out HF.out).mono ?_;rintro e w2 ⟨rfl,hf,hx⟩;have bO:ak K V1 w2:=hx;have hf':FE w2 K e2:=by(rw [j4.out];exact hf)
    have hA':=HX.out.but hx f_;have aM:=HB.out.but hx bL
    have HR:=ae (And.intro hf' (And.intro bO (And.intro aM hA')));clear hf hx hf' bO hA' aM k0 k1 k2 k3 k4 k5 k6 k7 c1;go_wp2_with fail
    go_meet
    exact HR.out
  case rest=>
   obtain ⟨hF,hx,aM,hA'⟩:=hcut;generalize wc=V2 at*;have HF:=ae hF;have HB:=ae aM;have HX:=ae hA'
   have bV:=ae (bV.out.trans hx);have bw:=ae (hx.ext bw.out bB.out)
   clear hF hx aM hA';obtain ⟨e3,he⟩: ∃e',e'=nd e2 (aY 0 1048576 [x.min]) 3:=⟨_,rfl⟩;have nc:=ae he;clear he;go_upto_region 4 with fail
   go_cut [] (fun wx=>FE wx K e3∧ak K V2 wx∧aG wx B 32 c.cells∧aG wx X 67 x.cells)
   case first=>
    as_aux_lemma=>
     have c2:=HX.out.cl 2 (i64 x.min) rfl;go_wp2_with fail
     refine (gh V2 x.min _ _ LN.out).mono ?_;rintro e w1 ⟨rfl,rfl⟩;go_wp2_with fail
     refine (aU _ K _ _ _ _ _ _ (HF.out.alloc _)).mono ?_;rintro e w2 ⟨rfl,hf,hx⟩;have bO:ak K V2 w2:=((ak.refl K V2).alloc' _).trans hx;have hf':FE w2 K e3:=by(rw [nc.out];exact hf)
     have hA':=(HX.out.alloc' _).but hx f_;have aM:=(HB.out.alloc' _).but hx bL
     have HR:=ae (And.intro hf' (And.intro bO (And.intro aM hA')));clear hf hx hf' bO hA' aM c2;go_wp2_with fail
     go_meet
     exact HR.out
   case rest=>
    obtain ⟨hF,hx,aM,hA'⟩:=hcut;generalize wc=V3 at*;have HF:=ae hF;have HB:=ae aM;have HX:=ae hA'
    have bV:=ae (bV.out.trans hx);have bw:=ae (hx.ext bw.out bB.out)
    clear hF hx aM hA';obtain ⟨e4,he⟩: ∃e',e'=nd e3 (aY x.min 1048576 [x.max]) 3:=⟨_,rfl⟩;have ng:=ae he;clear he;go_upto_region 5 with fail
    go_cut [] (fun wx=>FE wx K e4∧ak K V3 wx∧aG wx B 32 c.cells∧aG wx X 67 x.cells)
    case first=>
     as_aux_lemma=>
      have c2:=HX.out.cl 2 (i64 x.min) rfl;have c3:=HX.out.cl 3 (i64 x.max) rfl;go_wp2_with fail
      refine (gh V3 x.max _ _ LO.out).mono ?_;rintro e w1 ⟨rfl,rfl⟩;go_wp2_with fail
      refine (aU _ K _ _ _ _ _ _ (HF.out.alloc _)).mono ?_;rintro e w2 ⟨rfl,hf,hx⟩;have bO:ak K V3 w2:=((ak.refl K V3).alloc' _).trans hx;have hf':FE w2 K e4:=by(rw [ng.out];exact hf)
      have hA':=(HX.out.alloc' _).but hx f_;have aM:=(HB.out.alloc' _).but hx bL
      have HR:=ae (And.intro hf' (And.intro bO (And.intro aM hA')));clear hf hx hf' bO hA' aM c2 c3;go_wp2_with fail
      go_meet
      exact HR.out
    case rest=>
     obtain ⟨hF,hx,aM,hA'⟩:=hcut;generalize wc=V4 at*;have HF:=ae hF;have HB:=ae aM;have HX:=ae hA'
     have bV:=ae (bV.out.trans hx);have bw:=ae (hx.ext bw.out bB.out)
     clear hF hx aM hA'
     as_aux_lemma=>
      obtain ⟨e5,he⟩: ∃e',e'=jI e4 x:=⟨_,rfl⟩;have qc:=ae he;clear he;go_upto_region 6 with fail
      go_cut [] (fun wx=>FE wx K e5∧ak K V4 wx∧aG wx B 32 c.cells∧aG wx X 67 x.cells)
      case first=>
       as_aux_lemma=>
        go_wp2_with (refine aQ rfl 67 _ rfl ⟨X,0,none⟩ rfl [.string x.name,i64 x.cX,i64 x.min,i64 x.max,.slice x.sa x.aI.length x.sc,i64 x.cg,i64 x.cj,i64 x.a_,i64 x.aW,i64 x.bf,i64 x.bQ,i64 x.bg,i64 x.startTime,i64 x.bA,i64 x.bh,i64 x.bj,i64 x.az,i64 x.aJ,.slice x.aa x.away.length x.ac,i64 x.state,i64 x.hours,i64 x.output] _ HX.out.adds Tryz.underlying67 rfl (by kernel_rfl) ?_)
        refine (wO w0 V4 K _ x _ bB.out bw.out TV.out LL.out HF.out).mono ?_;rintro e w2 ⟨rfl,hf,hx⟩;have bO:ak K V4 w2:=hx;have hf':FE w2 K e5:=by(rw [qc.out];exact hf)
        have hA':=HX.out.but hx f_;have aM:=HB.out.but hx bL
        have HR:=ae (And.intro hf' (And.intro bO (And.intro aM hA')));clear hf hx hf' bO hA' aM;go_wp2_with fail
        go_meet
        exact HR.out
      case rest=>
       obtain ⟨hF,hx,aM,hA'⟩:=hcut;generalize wc=V5 at*;have HF:=ae hF;have HB:=ae aM;have HX:=ae hA'
       have bV:=ae (bV.out.trans hx);have bw:=ae (hx.ext bw.out bB.out)
       clear hF hx aM hA';obtain ⟨e6,he⟩: ∃e',e'=nd e5 (aY 0 1048576 [x.cg]) 3:=⟨_,rfl⟩;have vD:=ae he;clear he;go_upto_region 7 with fail
       go_cut [] (fun wx=>FE wx K e6∧ak K V5 wx∧aG wx B 32 c.cells∧aG wx X 67 x.cells)
       case first=>
        as_aux_lemma=>
            have c5:=HX.out.cl 5 (i64 x.cg) rfl;go_wp2_with fail
            refine (gh V5 x.cg _ _ Dr.out).mono ?_;rintro e w1 ⟨rfl,rfl⟩;go_wp2_with fail
            refine (aU _ K _ _ _ _ _ _ (HF.out.alloc _)).mono ?_;rintro e w2 ⟨rfl,hf,hx⟩;have bO:ak K V5 w2:=((ak.refl K V5).alloc' _).trans hx;have hf':FE w2 K e6:=by(rw [vD.out];exact hf)
            have hA':=(HX.out.alloc' _).but hx f_;have aM:=(HB.out.alloc' _).but hx bL
            have HR:=ae (And.intro hf' (And.intro bO (And.intro aM hA')));clear hf hx hf' bO hA' aM c5;go_wp2_with fail
            go_meet
            exact HR.out
       case rest=>
        obtain ⟨hF,hx,aM,hA'⟩:=hcut;generalize wc=V6 at*;have HF:=ae hF;have HB:=ae aM;have HX:=ae hA'
        have bV:=ae (bV.out.trans hx);have bw:=ae (hx.ext bw.out bB.out)
        clear hF hx aM hA';obtain ⟨e7,he⟩: ∃e',e'=nd e6 (aY 0 1048576 [x.cj]) 3:=⟨_,rfl⟩;have oL:=ae he;clear he;go_upto_region 8 with fail
        go_cut [] (fun wx=>FE wx K e7∧ak K V6 wx∧aG wx B 32 c.cells∧aG wx X 67 x.cells)
        case first=>
            as_aux_lemma=>
             have c6:=HX.out.cl 6 (i64 x.cj) rfl;go_wp2_with fail
             refine (gh V6 x.cj _ _ Ds.out).mono ?_;rintro e w1 ⟨rfl,rfl⟩;go_wp2_with fail
             refine (aU _ K _ _ _ _ _ _ (HF.out.alloc _)).mono ?_;rintro e w2 ⟨rfl,hf,hx⟩;have bO:ak K V6 w2:=((ak.refl K V6).alloc' _).trans hx;have hf':FE w2 K e7:=by(rw [oL.out];exact hf)
             have hA':=(HX.out.alloc' _).but hx f_;have aM:=(HB.out.alloc' _).but hx bL
             have HR:=ae (And.intro hf' (And.intro bO (And.intro aM hA')));clear hf hx hf' bO hA' aM c6;go_wp2_with fail
             go_meet
             exact HR.out
        case rest=>
            obtain ⟨hF,hx,aM,hA'⟩:=hcut;generalize wc=V7 at*;have HF:=ae hF;have HB:=ae aM;have HX:=ae hA'
            have bV:=ae (bV.out.trans hx);have bw:=ae (hx.ext bw.out bB.out)
            clear hF hx aM hA';obtain ⟨e8,he⟩: ∃e',e'=nd e7 (aY 0 1048576 [x.a_]) 3:=⟨_,rfl⟩;have vE:=ae he;clear he;go_upto_region 9 with fail
            go_cut [] (fun wx=>FE wx K e8∧ak K V7 wx∧aG wx B 32 c.cells∧aG wx X 67 x.cells)
            case first=>
             as_aux_lemma=>
              have c7:=HX.out.cl 7 (i64 x.a_) rfl;go_wp2_with fail
              refine (gh V7 x.a_ _ _ yB.out).mono ?_;rintro e w1 ⟨rfl,rfl⟩;go_wp2_with fail
              refine (aU _ K _ _ _ _ _ _ (HF.out.alloc _)).mono ?_;rintro e w2 ⟨rfl,hf,hx⟩;have bO:ak K V7 w2:=((ak.refl K V7).alloc' _).trans hx;have hf':FE w2 K e8:=by(rw [vE.out];exact hf)
              have hA':=(HX.out.alloc' _).but hx f_;have aM:=(HB.out.alloc' _).but hx bL
              have HR:=ae (And.intro hf' (And.intro bO (And.intro aM hA')));clear hf hx hf' bO hA' aM c7;go_wp2_with fail
              go_meet
              exact HR.out
            case rest=>
             obtain ⟨hF,hx,aM,hA'⟩:=hcut;generalize wc=V8 at*;have HF:=ae hF;have HB:=ae aM;have HX:=ae hA'
             have bV:=ae (bV.out.trans hx);have bw:=ae (hx.ext bw.out bB.out)
             clear hF hx aM hA'
             as_aux_lemma=>
              obtain ⟨e9,he⟩: ∃e',e'=nd e8 (aY x.min x.max [x.aW]) 3:=⟨_,rfl⟩;have NV:=ae he;clear he;go_upto_region 10 with fail
              go_cut [] (fun wx=>FE wx K e9∧ak K V8 wx∧aG wx B 32 c.cells∧aG wx X 67 x.cells)
              case first=>
               as_aux_lemma=>
                have c2:=HX.out.cl 2 (i64 x.min) rfl;have c3:=HX.out.cl 3 (i64 x.max) rfl;have c8:=HX.out.cl 8 (i64 x.aW) rfl;go_wp2_with fail
                refine (gh V8 x.aW _ _ wP.out).mono ?_;rintro e w1 ⟨rfl,rfl⟩;go_wp2_with fail
                refine (aU _ K _ _ _ _ _ _ (HF.out.alloc _)).mono ?_;rintro e w2 ⟨rfl,hf,hx⟩;have bO:ak K V8 w2:=((ak.refl K V8).alloc' _).trans hx;have hf':FE w2 K e9:=by(rw [NV.out];exact hf)
                have hA':=(HX.out.alloc' _).but hx f_;have aM:=(HB.out.alloc' _).but hx bL
                have HR:=ae (And.intro hf' (And.intro bO (And.intro aM hA')));clear hf hx hf' bO hA' aM c2 c3 c8;go_wp2_with fail
                go_meet
                exact HR.out
              case rest=>
               obtain ⟨hF,hx,aM,hA'⟩:=hcut;generalize wc=V9 at*;have HF:=ae hF;have HB:=ae aM;have HX:=ae hA'
               have bV:=ae (bV.out.trans hx);have bw:=ae (hx.ext bw.out bB.out)
               clear hF hx aM hA';obtain ⟨Cl,he⟩: ∃e',e'=nd e9 (aY x.min x.max [x.bf]) 3:=⟨_,rfl⟩;have Dj:=ae he;clear he;go_upto_region 11 with fail
               go_cut [] (fun wx=>FE wx K Cl∧ak K V9 wx∧aG wx B 32 c.cells∧aG wx X 67 x.cells)
               case first=>
                as_aux_lemma=>
                 have c2:=HX.out.cl 2 (i64 x.min) rfl;have c3:=HX.out.cl 3 (i64 x.max) rfl;have c9:=HX.out.cl 9 (i64 x.bf) rfl;go_wp2_with fail
                 refine (gh V9 x.bf _ _ yC.out).mono ?_;rintro e w1 ⟨rfl,rfl⟩;go_wp2_with fail
                 refine (aU _ K _ _ _ _ _ _ (HF.out.alloc _)).mono ?_;rintro e w2 ⟨rfl,hf,hx⟩;have bO:ak K V9 w2:=((ak.refl K V9).alloc' _).trans hx;have hf':FE w2 K Cl:=by(rw [Dj.out];exact hf)
                 have hA':=(HX.out.alloc' _).but hx f_;have aM:=(HB.out.alloc' _).but hx bL
                 have HR:=ae (And.intro hf' (And.intro bO (And.intro aM hA')));clear hf hx hf' bO hA' aM c2 c3 c9;go_wp2_with fail
                 go_meet
                 exact HR.out
               case rest=>
                obtain ⟨hF,hx,aM,hA'⟩:=hcut;generalize wc=LP at*;have HF:=ae hF;have HB:=ae aM;have HX:=ae hA'
                have bV:=ae (bV.out.trans hx);have bw:=ae (hx.ext bw.out bB.out)
                clear hF hx aM hA';obtain ⟨e11,he⟩: ∃e',e'=nd Cl (aY 0 24 [x.bQ]) 3:=⟨_,rfl⟩;have LQ:=ae he;clear he;go_upto_region 12 with fail
                go_cut [] (fun wx=>FE wx K e11∧ak K LP wx∧aG wx B 32 c.cells∧aG wx X 67 x.cells)
                case first=>
                 as_aux_lemma=>
                  have c10:=HX.out.cl 10 (i64 x.bQ) rfl;go_wp2_with fail
                  refine (gh LP x.bQ _ _ Dt.out).mono ?_;rintro e w1 ⟨rfl,rfl⟩;go_wp2_with fail
                  refine (aU _ K _ _ _ _ _ _ (HF.out.alloc _)).mono ?_;rintro e w2 ⟨rfl,hf,hx⟩;have bO:ak K LP w2:=((ak.refl K LP).alloc' _).trans hx;have hf':FE w2 K e11:=by(rw [LQ.out];exact hf)
                  have hA':=(HX.out.alloc' _).but hx f_;have aM:=(HB.out.alloc' _).but hx bL
                  have HR:=ae (And.intro hf' (And.intro bO (And.intro aM hA')));clear hf hx hf' bO hA' aM c10;go_wp2_with fail
                  go_meet
                  exact HR.out
                case rest=>
                 obtain ⟨hF,hx,aM,hA'⟩:=hcut;generalize wc=LR at*;have HF:=ae hF;have HB:=ae aM;have HX:=ae hA'
                 have bV:=ae (bV.out.trans hx);have bw:=ae (hx.ext bw.out bB.out)
                 clear hF hx aM hA';obtain ⟨NW,he⟩: ∃e',e'=nd e11 (aY 0 24 [x.bg]) 3:=⟨_,rfl⟩;have LS:=ae he;clear he;go_upto_region 13 with fail
                 go_cut [] (fun wx=>FE wx K NW∧ak K LR wx∧aG wx B 32 c.cells∧aG wx X 67 x.cells)
                 case first=>
                  as_aux_lemma=>
                   have c11:=HX.out.cl 11 (i64 x.bg) rfl;go_wp2_with fail
                   refine (gh LR x.bg _ _ yD.out).mono ?_;rintro e w1 ⟨rfl,rfl⟩;go_wp2_with fail
                   refine (aU _ K _ _ _ _ _ _ (HF.out.alloc _)).mono ?_;rintro e w2 ⟨rfl,hf,hx⟩;have bO:ak K LR w2:=((ak.refl K LR).alloc' _).trans hx;have hf':FE w2 K NW:=by(rw [LS.out];exact hf)
                   have hA':=(HX.out.alloc' _).but hx f_;have aM:=(HB.out.alloc' _).but hx bL
                   have HR:=ae (And.intro hf' (And.intro bO (And.intro aM hA')));clear hf hx hf' bO hA' aM c11;go_wp2_with fail
                   go_meet
                   exact HR.out
                 case rest=>
                  obtain ⟨hF,hx,aM,hA'⟩:=hcut;generalize wc=LU at*;have HF:=ae hF;have HB:=ae aM;have HX:=ae hA'
                  have bV:=ae (bV.out.trans hx);have bw:=ae (hx.ext bw.out bB.out)
                  clear hF hx aM hA'
                  as_aux_lemma=>
                   obtain ⟨NX,he⟩: ∃e',e'=nd NW (aY 0 24 [x.startTime]) 3:=⟨_,rfl⟩;have LV:=ae he;clear he;go_upto_region 14 with fail
                   go_cut [] (fun wx=>FE wx K NX∧ak K LU wx∧aG wx B 32 c.cells∧aG wx X 67 x.cells)
                   case first=>
                          as_aux_lemma=>
                           have c12:=HX.out.cl 12 (i64 x.startTime) rfl;go_wp2_with fail
                           refine (gh LU x.startTime _ _ wQ.out).mono ?_;rintro e w1 ⟨rfl,rfl⟩;go_wp2_with fail
                           refine (aU _ K _ _ _ _ _ _ (HF.out.alloc _)).mono ?_;rintro e w2 ⟨rfl,hf,hx⟩;have bO:ak K LU w2:=((ak.refl K LU).alloc' _).trans hx;have hf':FE w2 K NX:=by(rw [LV.out];exact hf)
                           have hA':=(HX.out.alloc' _).but hx f_;have aM:=(HB.out.alloc' _).but hx bL
                           have HR:=ae (And.intro hf' (And.intro bO (And.intro aM hA')));clear hf hx hf' bO hA' aM c12;go_wp2_with fail
                           go_meet
                           exact HR.out
                   case rest=>
                          obtain ⟨hF,hx,aM,hA'⟩:=hcut;generalize wc=LW at*;have HF:=ae hF;have HB:=ae aM;have HX:=ae hA'
                          have bV:=ae (bV.out.trans hx);have bw:=ae (hx.ext bw.out bB.out)
                          clear hF hx aM hA';obtain ⟨NY,he⟩: ∃e',e'=nd NX (aY 0 1048576 [x.bA]) 3:=⟨_,rfl⟩;have LX:=ae he;clear he;go_upto_region 15 with fail
                          go_cut [] (fun wx=>FE wx K NY∧ak K LW wx∧aG wx B 32 c.cells∧aG wx X 67 x.cells)
                          case first=>
                           as_aux_lemma=>
                            have c13:=HX.out.cl 13 (i64 x.bA) rfl;go_wp2_with fail
                            refine (gh LW x.bA _ _ AP.out).mono ?_;rintro e w1 ⟨rfl,rfl⟩;go_wp2_with fail
                            refine (aU _ K _ _ _ _ _ _ (HF.out.alloc _)).mono ?_;rintro e w2 ⟨rfl,hf,hx⟩;have bO:ak K LW w2:=((ak.refl K LW).alloc' _).trans hx;have hf':FE w2 K NY:=by(rw [LX.out];exact hf)
                            have hA':=(HX.out.alloc' _).but hx f_;have aM:=(HB.out.alloc' _).but hx bL
                            have HR:=ae (And.intro hf' (And.intro bO (And.intro aM hA')));clear hf hx hf' bO hA' aM c13;go_wp2_with fail
                            go_meet
                            exact HR.out
                          case rest=>
                           obtain ⟨hF,hx,aM,hA'⟩:=hcut;generalize wc=LY at*;have HF:=ae hF;have HB:=ae aM;have HX:=ae hA'
                           have bV:=ae (bV.out.trans hx);have bw:=ae (hx.ext bw.out bB.out)
                           clear hF hx aM hA';obtain ⟨NZ,he⟩: ∃e',e'=nd NY (aY 0 1048576 [x.bh]) 3:=⟨_,rfl⟩;have LZ:=ae he;clear he;go_upto_region 16 with fail
                           go_cut [] (fun wx=>FE wx K NZ∧ak K LY wx∧aG wx B 32 c.cells∧aG wx X 67 x.cells)
                           case first=>
                            as_aux_lemma=>
                             have c14:=HX.out.cl 14 (i64 x.bh) rfl;go_wp2_with fail
                             refine (gh LY x.bh _ _ yE.out).mono ?_;rintro e w1 ⟨rfl,rfl⟩;go_wp2_with fail
                             refine (aU _ K _ _ _ _ _ _ (HF.out.alloc _)).mono ?_;rintro e w2 ⟨rfl,hf,hx⟩;have bO:ak K LY w2:=((ak.refl K LY).alloc' _).trans hx;have hf':FE w2 K NZ:=by(rw [LZ.out];exact hf)
                             have hA':=(HX.out.alloc' _).but hx f_;have aM:=(HB.out.alloc' _).but hx bL
                             have HR:=ae (And.intro hf' (And.intro bO (And.intro aM hA')));clear hf hx hf' bO hA' aM c14;go_wp2_with fail
                             go_meet
                             exact HR.out
                           case rest=>
                            obtain ⟨hF,hx,aM,hA'⟩:=hcut;generalize wc=L0 at*;have HF:=ae hF;have HB:=ae aM;have HX:=ae hA'
                            have bV:=ae (bV.out.trans hx);have bw:=ae (hx.ext bw.out bB.out)
                            clear hF hx aM hA';obtain ⟨N0,he⟩: ∃e',e'=nd NZ (aY 0 24 [x.bj]) 3:=⟨_,rfl⟩;have L1:=ae he;clear he;go_upto_region 17 with fail
                            go_cut [] (fun wx=>FE wx K N0∧ak K L0 wx∧aG wx B 32 c.cells∧aG wx X 67 x.cells)
                            case first=>
                             as_aux_lemma=>
                              have c15:=HX.out.cl 15 (i64 x.bj) rfl;go_wp2_with fail
                              refine (gh L0 x.bj _ _ yF.out).mono ?_;rintro e w1 ⟨rfl,rfl⟩;go_wp2_with fail
                              refine (aU _ K _ _ _ _ _ _ (HF.out.alloc _)).mono ?_;rintro e w2 ⟨rfl,hf,hx⟩;have bO:ak K L0 w2:=((ak.refl K L0).alloc' _).trans hx;have hf':FE w2 K N0:=by(rw [L1.out];exact hf)
                              have hA':=(HX.out.alloc' _).but hx f_;have aM:=(HB.out.alloc' _).but hx bL
                              have HR:=ae (And.intro hf' (And.intro bO (And.intro aM hA')));clear hf hx hf' bO hA' aM c15;go_wp2_with fail
                              go_meet
                              exact HR.out
                            case rest=>
                             obtain ⟨hF,hx,aM,hA'⟩:=hcut;generalize wc=L3 at*;have HF:=ae hF;have HB:=ae aM;have HX:=ae hA'
                             have bV:=ae (bV.out.trans hx);have bw:=ae (hx.ext bw.out bB.out)
                             clear hF hx aM hA'
                             as_aux_lemma=>
                              obtain ⟨N1,he⟩: ∃e',e'=nd N0 (aY 0 1048576 [x.az]) 3:=⟨_,rfl⟩;have L4:=ae he;clear he;go_upto_region 18 with fail
                              go_cut [] (fun wx=>FE wx K N1∧ak K L3 wx∧aG wx B 32 c.cells∧aG wx X 67 x.cells)
                              case first=>
                                  as_aux_lemma=>
                                   have c16:=HX.out.cl 16 (i64 x.az) rfl;go_wp2_with fail
                                   refine (gh L3 x.az _ _ AQ.out).mono ?_;rintro e w1 ⟨rfl,rfl⟩;go_wp2_with fail
                                   refine (aU _ K _ _ _ _ _ _ (HF.out.alloc _)).mono ?_;rintro e w2 ⟨rfl,hf,hx⟩;have bO:ak K L3 w2:=((ak.refl K L3).alloc' _).trans hx;have hf':FE w2 K N1:=by(rw [L4.out];exact hf)
                                   have hA':=(HX.out.alloc' _).but hx f_;have aM:=(HB.out.alloc' _).but hx bL
                                   have HR:=ae (And.intro hf' (And.intro bO (And.intro aM hA')));clear hf hx hf' bO hA' aM c16;go_wp2_with fail
                                   go_meet
                                   exact HR.out
                              case rest=>
                                  obtain ⟨hF,hx,aM,hA'⟩:=hcut;generalize wc=L5 at*;have HF:=ae hF;have HB:=ae aM;have HX:=ae hA'
                                  have bV:=ae (bV.out.trans hx);have bw:=ae (hx.ext bw.out bB.out)
                                  clear hF hx aM hA';obtain ⟨N2,he⟩: ∃e',e'=nd N1 (aY 0 1048576 [x.aJ]) 3:=⟨_,rfl⟩;have L6:=ae he;clear he;go_upto_region 19 with fail
                                  go_cut [] (fun wx=>FE wx K N2∧ak K L5 wx∧aG wx B 32 c.cells∧aG wx X 67 x.cells)
                                  case first=>
                                   as_aux_lemma=>
                                    have c17:=HX.out.cl 17 (i64 x.aJ) rfl;go_wp2_with fail
                                    refine (gh L5 x.aJ _ _ rM.out).mono ?_;rintro e w1 ⟨rfl,rfl⟩;go_wp2_with fail
                                    refine (aU _ K _ _ _ _ _ _ (HF.out.alloc _)).mono ?_;rintro e w2 ⟨rfl,hf,hx⟩;have bO:ak K L5 w2:=((ak.refl K L5).alloc' _).trans hx;have hf':FE w2 K N2:=by(rw [L6.out];exact hf)
                                    have hA':=(HX.out.alloc' _).but hx f_;have aM:=(HB.out.alloc' _).but hx bL
                                    have HR:=ae (And.intro hf' (And.intro bO (And.intro aM hA')));clear hf hx hf' bO hA' aM c17;go_wp2_with fail
                                    go_meet
                                    exact HR.out
                                  case rest=>
                                   obtain ⟨hF,hx,aM,hA'⟩:=hcut;generalize wc=N3 at*;have HF:=ae hF;have HB:=ae aM;have HX:=ae hA'
                                   have bV:=ae (bV.out.trans hx);have bw:=ae (hx.ext bw.out bB.out)
                                   clear hF hx aM hA';obtain ⟨N4,he⟩: ∃e',e'=j2 N2 c x.away:=⟨_,rfl⟩;have L8:=ae he;clear he;go_upto_region 20 with fail
                                   go_cut [] (fun wx=>FE wx K N4∧ak K N3 wx∧aG wx B 32 c.cells∧aG wx X 67 x.cells)
                                   case first=>
                                    as_aux_lemma=>
                                     obtain ⟨k0,k1,k2,k3,k4,k5,k6,k7⟩:=aq.at HB.out;have c18:=HX.out.cl 18 (.slice x.aa x.away.length x.ac) rfl;go_wp2_with fail
                                     refine (yo w0 N3 K c _ x.aa x.ac x.away _ _ _ bB.out bw.out wC.out HF.out).mono ?_;rintro e w2 ⟨rfl,hf,hx⟩;have bO:ak K N3 w2:=hx;have hf':FE w2 K N4:=by(rw [L8.out];exact hf)
                                     have hA':=HX.out.but hx f_;have aM:=HB.out.but hx bL
                                     have HR:=ae (And.intro hf' (And.intro bO (And.intro aM hA')));clear hf hx hf' bO hA' aM k0 k1 k2 k3 k4 k5 k6 k7 c18;go_wp2_with fail
                                     go_meet
                                     exact HR.out
                                   case rest=>
                                    obtain ⟨hF,hx,aM,hA'⟩:=hcut;generalize wc=L9 at*;have HF:=ae hF;have HB:=ae aM;have HX:=ae hA'
                                    have bV:=ae (bV.out.trans hx);have bw:=ae (hx.ext bw.out bB.out)
                                    clear hF hx aM hA';obtain ⟨N5,he⟩: ∃e',e'=nd N4 (aY 0 2 [x.state]) 12:=⟨_,rfl⟩;have L_:=ae he;clear he;go_upto_region 21 with fail
                                    go_cut [] (fun wx=>FE wx K N5∧ak K L9 wx∧aG wx B 32 c.cells∧aG wx X 67 x.cells)
                                    case first=>
                                     as_aux_lemma=>
                                      have c19:=HX.out.cl 19 (i64 x.state) rfl;go_wp2_with fail
                                      refine (gh L9 x.state _ _ F0.out).mono ?_;rintro e w1 ⟨rfl,rfl⟩;go_wp2_with fail
                                      refine (aU _ K _ _ _ _ _ _ (HF.out.alloc _)).mono ?_;rintro e w2 ⟨rfl,hf,hx⟩;have bO:ak K L9 w2:=((ak.refl K L9).alloc' _).trans hx;have hf':FE w2 K N5:=by(rw [L_.out];exact hf)
                                      have hA':=(HX.out.alloc' _).but hx f_;have aM:=(HB.out.alloc' _).but hx bL
                                      have HR:=ae (And.intro hf' (And.intro bO (And.intro aM hA')));clear hf hx hf' bO hA' aM c19;go_wp2_with fail
                                      go_meet
                                      exact HR.out
                                    case rest=>
                                     obtain ⟨hF,hx,aM,hA'⟩:=hcut;generalize wc=Jg at*;have HF:=ae hF;have HB:=ae aM;have HX:=ae hA'
                                     have bV:=ae (bV.out.trans hx);have bw:=ae (hx.ext bw.out bB.out)
                                     clear hF hx aM hA'
                                     as_aux_lemma=>
                                      obtain ⟨Ma,he⟩: ∃e',e'=nd N5 ((x.state !=1)||decide (0<x.startTime)) 16:=⟨_,rfl⟩;have Jh:=ae he;clear he;go_upto_region 22 with fail
                                      go_cut [] (fun wx=>FE wx K Ma∧ak K Jg wx∧aG wx B 32 c.cells∧aG wx X 67 x.cells)
                                      case first=>
                                       as_aux_lemma=>
                                         have c12:=HX.out.cl 12 (i64 x.startTime) rfl;have c19:=HX.out.cl 19 (i64 x.state) rfl;rcases Bool.eq_false_or_eq_true (x.state !=1)with hp|hp
                                         ·have HP:=ae hp
                                          go_wp2_with fail
                                          refine (aU _ K _ _ _ _ _ _ HF.out).mono ?_;rintro e w2 ⟨rfl,hf,hx⟩;have bO:ak K Jg w2:=hx;have hf':FE w2 K Ma:=by(rw [Jh.out];rw [HP.out,Bool.true_or];exact hf)
                                          have hA':=HX.out.but hx f_;have aM:=HB.out.but hx bL
                                          have HR:=ae (And.intro hf' (And.intro bO (And.intro aM hA')));clear hf hx hf' bO hA' aM c12 c19;go_wp2_with fail
                                          go_meet
                                          exact HR.out
                                         ·have HP:=ae hp
                                          go_wp2_with fail
                                          refine (aU _ K _ _ _ _ _ _ HF.out).mono ?_;rintro e w2 ⟨rfl,hf,hx⟩;have bO:ak K Jg w2:=hx;have hf':FE w2 K Ma:=by(rw [Jh.out];rw [HP.out,Bool.false_or];exact hf)
                                          have hA':=HX.out.but hx f_;have aM:=HB.out.but hx bL
                                          have HR:=ae (And.intro hf' (And.intro bO (And.intro aM hA')));clear hf hx hf' bO hA' aM c12 c19;go_wp2_with fail
                                          go_meet
                                          exact HR.out
                                      case rest=>
                                       obtain ⟨hF,hx,aM,hA'⟩:=hcut;generalize wc=KS at*;have HF:=ae hF;have HB:=ae aM;have HX:=ae hA'
                                       have bV:=ae (bV.out.trans hx);have bw:=ae (hx.ext bw.out bB.out)
                                       clear hF hx aM hA';obtain ⟨TW,he⟩: ∃e',e'=nd Ma (aY 1 48 [x.hours]) 3:=⟨_,rfl⟩;have Mb:=ae he;clear he;go_upto_region 23 with fail
                                       go_cut [] (fun wx=>FE wx K TW∧ak K KS wx∧aG wx B 32 c.cells∧aG wx X 67 x.cells)
                                       case first=>
                                         as_aux_lemma=>
                                          have c20:=HX.out.cl 20 (i64 x.hours) rfl;go_wp2_with fail
                                          refine (gh KS x.hours _ _ F2.out).mono ?_;rintro e w1 ⟨rfl,rfl⟩;go_wp2_with fail
                                          refine (aU _ K _ _ _ _ _ _ (HF.out.alloc _)).mono ?_;rintro e w2 ⟨rfl,hf,hx⟩;have bO:ak K KS w2:=((ak.refl K KS).alloc' _).trans hx;have hf':FE w2 K TW:=by(rw [Mb.out];exact hf)
                                          have hA':=(HX.out.alloc' _).but hx f_;have aM:=(HB.out.alloc' _).but hx bL
                                          have HR:=ae (And.intro hf' (And.intro bO (And.intro aM hA')));clear hf hx hf' bO hA' aM c20;go_wp2_with fail
                                          go_meet
                                          exact HR.out
                                       case rest=>
                                         obtain ⟨hF,hx,aM,hA'⟩:=hcut;generalize wc=N6 at*;have HF:=ae hF;have HB:=ae aM;have HX:=ae hA'
                                         have bV:=ae (bV.out.trans hx);have bw:=ae (hx.ext bw.out bB.out)
                                         clear hF hx aM hA';obtain ⟨SN,he⟩: ∃e',e'=nd TW ((x.state !=1)||decide (x.hours≤x.startTime)) 3:=⟨_,rfl⟩;have Ji:=ae he;clear he;go_upto_region 24 with fail
                                         go_cut [] (fun wx=>FE wx K SN∧ak K N6 wx∧aG wx B 32 c.cells∧aG wx X 67 x.cells)
                                         case first=>
                                          as_aux_lemma=>
                                           have c12:=HX.out.cl 12 (i64 x.startTime) rfl;have c19:=HX.out.cl 19 (i64 x.state) rfl;have c20:=HX.out.cl 20 (i64 x.hours) rfl;rcases Bool.eq_false_or_eq_true (x.state !=1)with hp|hp
                                           ·have HP:=ae hp
                                            go_wp2_with fail
                                            refine (aU _ K _ _ _ _ _ _ HF.out).mono ?_;rintro e w2 ⟨rfl,hf,hx⟩;have bO:ak K N6 w2:=hx;have hf':FE w2 K SN:=by(rw [Ji.out];rw [HP.out,Bool.true_or];exact hf)
                                            have hA':=HX.out.but hx f_;have aM:=HB.out.but hx bL
                                            have HR:=ae (And.intro hf' (And.intro bO (And.intro aM hA')));clear hf hx hf' bO hA' aM c12 c19 c20;go_wp2_with fail
                                            go_meet
                                            exact HR.out
                                           ·have HP:=ae hp
                                            go_wp2_with fail
                                            refine (aU _ K _ _ _ _ _ _ HF.out).mono ?_;rintro e w2 ⟨rfl,hf,hx⟩;have bO:ak K N6 w2:=hx;have hf':FE w2 K SN:=by(rw [Ji.out];rw [HP.out,Bool.false_or];exact hf)
                                            have hA':=HX.out.but hx f_;have aM:=HB.out.but hx bL
                                            have HR:=ae (And.intro hf' (And.intro bO (And.intro aM hA')));clear hf hx hf' bO hA' aM c12 c19 c20;go_wp2_with fail
                                            go_meet
                                            exact HR.out
                                         case rest=>
                                          obtain ⟨hF,hx,aM,hA'⟩:=hcut;generalize wc=KT at*;have HF:=ae hF;have HB:=ae aM;have HX:=ae hA'
                                          have bV:=ae (bV.out.trans hx);have bw:=ae (hx.ext bw.out bB.out)
                                          clear hF hx aM hA';obtain ⟨Xr,he⟩: ∃e',e'=nd SN ob 3:=⟨_,rfl⟩;have Jj:=ae he;clear he;have c2:=HX.out.cl 2 (i64 x.min) rfl;have c3:=HX.out.cl 3 (i64 x.max) rfl;have c19:=HX.out.cl 19 (i64 x.state) rfl;have mE:=HX.out.cl 21 (i64 x.output) rfl;rcases Bool.eq_false_or_eq_true (x.state==2)with hp|hp
                                          ·have HP:=ae hp
                                           go_wp2_with fail
                                           refine (gh KT x.output _ _ Du.out).mono ?_;rintro e w1 ⟨rfl,rfl⟩;go_wp2_with fail
                                           refine (aU _ K _ _ _ _ _ _ (HF.out.alloc _)).mono ?_;rintro e w2 ⟨rfl,hf,hx⟩;have bO:ak K KT w2:=((ak.refl K KT).alloc' _).trans hx;have hf':FE w2 K Xr:=by(rw [Jj.out];rw [Xq.out,if_pos HP.out];exact hf)
                                           have hA':=(HX.out.alloc' _).but hx f_;have aM:=(HB.out.alloc' _).but hx bL
                                           have HR:=ae (And.intro hf' (And.intro bO (And.intro aM hA')));clear hf hx hf' bO hA' aM c2 c3 c19 mE;go_wp2_with fail
                                           exact bodyPost_end (v:= .tuple #[]) (by simp [results,Tryz.results58,go_sem]) rfl ⟨rfl,by rw [←kt.out,←j4.out,←nc.out,←ng.out,←qc.out,←vD.out,←oL.out,←vE.out,←NV.out,←Dj.out,←LQ.out,←LS.out,←LV.out,←LX.out,←LZ.out,←L1.out,←L4.out,←L6.out,←L8.out,←L_.out,←Jh.out,←Mb.out,←Ji.out,←Jj.out];exact HR.out.1,bV.out.trans HR.out.2.1⟩
                                          ·have HP:=ae hp
                                           go_wp2_with fail
                                           refine (aU _ K _ _ _ _ _ _ HF.out).mono ?_;rintro e w2 ⟨rfl,hf,hx⟩;have bO:ak K KT w2:=hx;have hf':FE w2 K Xr:=by(rw [Jj.out];rw [Xq.out,if_neg (by rw [HP.out];simp)];exact hf)
                                           have hA':=HX.out.but hx f_;have aM:=HB.out.but hx bL
                                           have HR:=ae (And.intro hf' (And.intro bO (And.intro aM hA')));clear hf hx hf' bO hA' aM c2 c3 c19 mE;go_wp2_with fail
                                           exact bodyPost_end (v:= .tuple #[]) (by simp [results,Tryz.results58,go_sem]) rfl ⟨rfl,by rw [←kt.out,←j4.out,←nc.out,←ng.out,←qc.out,←vD.out,←oL.out,←vE.out,←NV.out,←Dj.out,←LQ.out,←LS.out,←LV.out,←LX.out,←LZ.out,←L1.out,←L4.out,←L6.out,←L8.out,←L_.out,←Jh.out,←Mb.out,←Ji.out,←Jj.out];exact HR.out.1,bV.out.trans HR.out.2.1⟩
end Go.Proofs.YtkpngkdgphojlaaGreat
