/- Texts of the proof. -/
import Derived.Shelf.Abstract
import Derived.Test.YtkpngkdgphojlaaGreatCc4
set_option linter.all false
namespace Go.Proofs.YtkpngkdgphojlaaGreat
open Go.RowKit
def ll (c:aq) (x:bp) (prev:List ByteArray) (e:Int):Int:=nd (nd (nd (nd (nd (nd (kD (eG e x.name prev) c x.cX) (aY 0 1048576 [x.capacity]) 3) (aY 0 x.capacity [x.initial]) 3) (aY 0 x.capacity [x.final]) 3) (aY 0 1048576 [x.dI]) 3) (aY 0 1048576 [x.discharge]) 3) ((bq x.en x.ed&&decide (0<x.en))&&decide (x.en≤x.ed)) 3
set_option maxHeartbeats 4000000 in
set_option maxRecDepth 100000 in
theorem Dk (w0 V:World) (K:Nat) (c:aq) (e:Int) (i:Nat) (hi:i<c.stores.length) (hK:w0.heap.size≤K) (hV:Ext w0 V) (hc:aT w0 c) (hn:c.stores.length≤1000000) (h:FE V K e):
 Calls Tryz.prog 59 #[.pointer (some ⟨K,0,none⟩),.agg (C8 c),i64 i] V fun e' w'=>rG V K (ll c c.stores[i] ((c.stores.take i).map bp.name) e) e' w':=by
 try unfold C8
 have vB:=h.lt;have hr:=hc.stores;have hle:=hr.le;have di:=hr.cap
 rw [List.length_map]at hle;obtain ⟨b,o,ha,c0,c1,c2,c3,c4,c5,c6,c7,c8⟩:=(hr.ext hV).stores i hi;have aP:=hc.store c.stores[i] (List.getElem_mem hi);have wB:=ae (mv c);obtain ⟨prev,iG⟩: ∃prev,prev=(c.stores.take i).map bp.name:=⟨_,rfl⟩;obtain ⟨x,eU⟩: ∃x,x=c.stores[i]:=⟨_,rfl⟩;have qa:Hid (∃h:i<(c.stores.map bp.name).length,(c.stores.map bp.name)[i]=x.name∧(c.stores.map bp.name).take i=prev):=⟨by simpa using hi,by subst eU;simp,by subst iG;rw [List.map_take]⟩;have sZ:Hid ((c.stores.map bp.name).length≤1000000):=by(show _≤_;rw [List.length_map];exact hn)
 rw [←iG,←eU];rw [←eU]at c0 c1 c2 c3 c4 c5 c6 c7 c8 aP;clear iG eU hn;have td:=ae (aP.2 x.cX (by simp));have yt:=ae (aP.2 x.capacity (by simp));have AD:=ae (aP.2 x.initial (by simp));have FH:=ae (aP.2 x.final (by simp));have Dl:=ae (aP.2 x.dI (by simp));have wD:=ae (aP.2 x.discharge (by simp));have FI:=ae (aP.2 x.en (by simp));have FJ:=ae (aP.2 x.ed (by simp));have EH:=ae aP.1;have HV:=ae hV;have dB:=ae hc;have HH:=ae h;have bB:=ae hK
 have fM:(0:Int)≤(i:Int):=by omega
 have fH:(i:Int)<(c.stores.length:Int):=by omega
 unfold ll;have j3:=ae ha;clear hr h hc hV hK aP ha;go_enter Tryz.func59,Tryz.ntmps59
 go_upto_region 1 with fail
 obtain ⟨W0,hW,x0,Z0,A0⟩:=aB V 32 c.cells;rw [show V.alloc (.cells (C8 c) 32)=W0 from hW.symm];clear hW;obtain ⟨B,hB⟩: ∃B,B=V.heap.size:=⟨_,rfl⟩;rw [←hB]at A0⊢;have bL:B≠K:=by omega
 obtain ⟨-,-,k2,k3,k4,k5,k6,k7⟩:=aq.at A0;rw [j3.out]at k5;have c0:=ai x0 c0;have c1:=ai x0 c1;have c2:=ai x0 c2;have c3:=ai x0 c3;have c4:=ai x0 c4;have c5:=ai x0 c5;have c6:=ai x0 c6;have c7:=ai x0 c7;have c8:=ai x0 c8;have ju:=ae A0;have X0:=ae x0;have kr:=ae hB
 clear A0 Z0 x0 hB k2 k3 k4 k6 k7;go_upto_region 2 with fail
 obtain ⟨W1,hW1,x1,Z1,A1⟩:=aB W0 82 x.cells;rw [show W0.alloc (.cells #[.string x.name,i64 x.cX,i64 x.capacity,i64 x.initial,i64 x.final,i64 x.dI,i64 x.discharge,i64 x.en,i64 x.ed] 82)=W1 from hW1.symm];clear hW1 k5 c0 c1 c2 c3 c4 c5 c6 c7 c8;obtain ⟨X,hX⟩: ∃X,X=W0.heap.size:=⟨_,rfl⟩;rw [←hX]at A1⊢;have f_:X≠K:=by have:=X0.out.size;omega
 have HF:=ae ((HH.out.ext X0.out).ext x1);have HX:=ae A1;have HB:=ae (ju.out.ext x1);have bV:Hid (ak K V W1):=(X0.out.trans x1).but K;have bw:Hid (Ext w0 W1):=(HV.out.trans X0.out).trans x1;clear hX A1 Z1 x1 HH ju X0 kr j3 fM fH;obtain ⟨e1,he⟩: ∃e',e'=eG e x.name prev:=⟨_,rfl⟩;have kt:=ae he;clear he;go_upto_region 2 with fail
 go_cut [] (fun wx=>FE wx K e1∧ak K W1 wx∧aG wx B 32 c.cells∧aG wx X 82 x.cells)
 case first=>
  as_aux_lemma=>
   obtain ⟨k0,k1,k2,k3,k4,k5,k6,k7⟩:=aq.at HB.out;go_wp2_with fail
   refine (kG w0 W1 K c _ 4 i prev _ x.name wB.out (by decide) qa.out sZ.out bB.out bw.out dB.out EH.out HF.out).mono ?_;rintro e w2 ⟨rfl,hf,hx⟩;have bO:ak K W1 w2:=hx;have hf':FE w2 K e1:=by(rw [kt.out];exact hf)
   have hA':=HX.out.but hx f_;have aM:=HB.out.but hx bL
   have HR:=ae (And.intro hf' (And.intro bO (And.intro aM hA')));clear hf hx hf' bO hA' aM k0 k1 k2 k3 k4 k5 k6 k7;go_wp2_with fail
   go_meet
   exact HR.out
 case rest=>
  obtain ⟨hF,hx,aM,hA'⟩:=hcut;generalize wc=V1 at*;have HF:=ae hF;have HB:=ae aM;have HX:=ae hA'
  have bV:=ae (bV.out.trans hx);have bw:=ae (hx.ext bw.out bB.out)
  clear hF hx aM hA';obtain ⟨e2,he⟩: ∃e',e'=kD e1 c x.cX:=⟨_,rfl⟩;have j4:=ae he;clear he;go_upto_region 3 with fail
  go_cut [] (fun wx=>FE wx K e2∧ak K V1 wx∧aG wx B 32 c.cells∧aG wx X 82 x.cells)
  case first=>
   as_aux_lemma=>
    obtain ⟨k0,k1,k2,k3,k4,k5,k6,k7⟩:=aq.at HB.out;have c1:=HX.out.cl 1 (i64 x.cX) rfl;go_wp2_with fail
    refine (oT w0 V1 K c _ x.cX _ _ _ bw.out dB.out td.out HF.out).mono ?_;rintro e w2 ⟨rfl,hf,hx⟩;have bO:ak K V1 w2:=hx;have hf':FE w2 K e2:=by(rw [j4.out];exact hf)
    have hA':=HX.out.but hx f_;have aM:=HB.out.but hx bL
    have HR:=ae (And.intro hf' (And.intro bO (And.intro aM hA')));clear hf hx hf' bO hA' aM k0 k1 k2 k3 k4 k5 k6 k7 c1;go_wp2_with fail
    go_meet
    exact HR.out
  case rest=>
   obtain ⟨hF,hx,aM,hA'⟩:=hcut;generalize wc=V2 at*;have HF:=ae hF;have HB:=ae aM;have HX:=ae hA'
   have bV:=ae (bV.out.trans hx);have bw:=ae (hx.ext bw.out bB.out)
   clear hF hx aM hA';obtain ⟨e3,he⟩: ∃e',e'=nd e2 (aY 0 1048576 [x.capacity]) 3:=⟨_,rfl⟩;have nc:=ae he;clear he;go_upto_region 4 with fail
   go_cut [] (fun wx=>FE wx K e3∧ak K V2 wx∧aG wx B 32 c.cells∧aG wx X 82 x.cells)
   case first=>
    as_aux_lemma=>
     have c2:=HX.out.cl 2 (i64 x.capacity) rfl;go_wp2_with fail
     refine (gh V2 x.capacity _ _ yt.out).mono ?_;rintro e w1 ⟨rfl,rfl⟩;go_wp2_with fail
     refine (aU _ K _ _ _ _ _ _ (HF.out.alloc _)).mono ?_;rintro e w2 ⟨rfl,hf,hx⟩;have bO:ak K V2 w2:=((ak.refl K V2).alloc' _).trans hx;have hf':FE w2 K e3:=by(rw [nc.out];exact hf)
     have hA':=(HX.out.alloc' _).but hx f_;have aM:=(HB.out.alloc' _).but hx bL
     have HR:=ae (And.intro hf' (And.intro bO (And.intro aM hA')));clear hf hx hf' bO hA' aM c2;go_wp2_with fail
     go_meet
     exact HR.out
   case rest=>
    obtain ⟨hF,hx,aM,hA'⟩:=hcut;generalize wc=V3 at*;have HF:=ae hF;have HB:=ae aM;have HX:=ae hA'
    have bV:=ae (bV.out.trans hx);have bw:=ae (hx.ext bw.out bB.out)
    clear hF hx aM hA';obtain ⟨e4,he⟩: ∃e',e'=nd e3 (aY 0 x.capacity [x.initial]) 3:=⟨_,rfl⟩;have ng:=ae he;clear he;go_upto_region 5 with fail
    go_cut [] (fun wx=>FE wx K e4∧ak K V3 wx∧aG wx B 32 c.cells∧aG wx X 82 x.cells)
    case first=>
     as_aux_lemma=>
      have c2:=HX.out.cl 2 (i64 x.capacity) rfl;have c3:=HX.out.cl 3 (i64 x.initial) rfl;go_wp2_with fail
      refine (gh V3 x.initial _ _ AD.out).mono ?_;rintro e w1 ⟨rfl,rfl⟩;go_wp2_with fail
      refine (aU _ K _ _ _ _ _ _ (HF.out.alloc _)).mono ?_;rintro e w2 ⟨rfl,hf,hx⟩;have bO:ak K V3 w2:=((ak.refl K V3).alloc' _).trans hx;have hf':FE w2 K e4:=by(rw [ng.out];exact hf)
      have hA':=(HX.out.alloc' _).but hx f_;have aM:=(HB.out.alloc' _).but hx bL
      have HR:=ae (And.intro hf' (And.intro bO (And.intro aM hA')));clear hf hx hf' bO hA' aM c2 c3;go_wp2_with fail
      go_meet
      exact HR.out
    case rest=>
     obtain ⟨hF,hx,aM,hA'⟩:=hcut;generalize wc=V4 at*;have HF:=ae hF;have HB:=ae aM;have HX:=ae hA'
     have bV:=ae (bV.out.trans hx);have bw:=ae (hx.ext bw.out bB.out)
     clear hF hx aM hA'
     as_aux_lemma=>
      obtain ⟨e5,he⟩: ∃e',e'=nd e4 (aY 0 x.capacity [x.final]) 3:=⟨_,rfl⟩;have qc:=ae he;clear he;go_upto_region 6 with fail
      go_cut [] (fun wx=>FE wx K e5∧ak K V4 wx∧aG wx B 32 c.cells∧aG wx X 82 x.cells)
      case first=>
       as_aux_lemma=>
        have c2:=HX.out.cl 2 (i64 x.capacity) rfl;have c4:=HX.out.cl 4 (i64 x.final) rfl;go_wp2_with fail
        refine (gh V4 x.final _ _ FH.out).mono ?_;rintro e w1 ⟨rfl,rfl⟩;go_wp2_with fail
        refine (aU _ K _ _ _ _ _ _ (HF.out.alloc _)).mono ?_;rintro e w2 ⟨rfl,hf,hx⟩;have bO:ak K V4 w2:=((ak.refl K V4).alloc' _).trans hx;have hf':FE w2 K e5:=by(rw [qc.out];exact hf)
        have hA':=(HX.out.alloc' _).but hx f_;have aM:=(HB.out.alloc' _).but hx bL
        have HR:=ae (And.intro hf' (And.intro bO (And.intro aM hA')));clear hf hx hf' bO hA' aM c2 c4;go_wp2_with fail
        go_meet
        exact HR.out
      case rest=>
       obtain ⟨hF,hx,aM,hA'⟩:=hcut;generalize wc=V5 at*;have HF:=ae hF;have HB:=ae aM;have HX:=ae hA'
       have bV:=ae (bV.out.trans hx);have bw:=ae (hx.ext bw.out bB.out)
       clear hF hx aM hA';obtain ⟨e6,he⟩: ∃e',e'=nd e5 (aY 0 1048576 [x.dI]) 3:=⟨_,rfl⟩;have vD:=ae he;clear he;go_upto_region 7 with fail
       go_cut [] (fun wx=>FE wx K e6∧ak K V5 wx∧aG wx B 32 c.cells∧aG wx X 82 x.cells)
       case first=>
        as_aux_lemma=>
         have c5:=HX.out.cl 5 (i64 x.dI) rfl;go_wp2_with fail
         refine (gh V5 x.dI _ _ Dl.out).mono ?_;rintro e w1 ⟨rfl,rfl⟩;go_wp2_with fail
         refine (aU _ K _ _ _ _ _ _ (HF.out.alloc _)).mono ?_;rintro e w2 ⟨rfl,hf,hx⟩;have bO:ak K V5 w2:=((ak.refl K V5).alloc' _).trans hx;have hf':FE w2 K e6:=by(rw [vD.out];exact hf)
         have hA':=(HX.out.alloc' _).but hx f_;have aM:=(HB.out.alloc' _).but hx bL
         have HR:=ae (And.intro hf' (And.intro bO (And.intro aM hA')));clear hf hx hf' bO hA' aM c5;go_wp2_with fail
         go_meet
         exact HR.out
       case rest=>
        obtain ⟨hF,hx,aM,hA'⟩:=hcut;generalize wc=V6 at*;have HF:=ae hF;have HB:=ae aM;have HX:=ae hA'
        have bV:=ae (bV.out.trans hx);have bw:=ae (hx.ext bw.out bB.out)
        clear hF hx aM hA';obtain ⟨e7,he⟩: ∃e',e'=nd e6 (aY 0 1048576 [x.discharge]) 3:=⟨_,rfl⟩;have oL:=ae he;clear he;go_upto_region 8 with fail
        go_cut [] (fun wx=>FE wx K e7∧ak K V6 wx∧aG wx B 32 c.cells∧aG wx X 82 x.cells)
        case first=>
         as_aux_lemma=>
             have c6:=HX.out.cl 6 (i64 x.discharge) rfl;go_wp2_with fail
             refine (gh V6 x.discharge _ _ wD.out).mono ?_;rintro e w1 ⟨rfl,rfl⟩;go_wp2_with fail
             refine (aU _ K _ _ _ _ _ _ (HF.out.alloc _)).mono ?_;rintro e w2 ⟨rfl,hf,hx⟩;have bO:ak K V6 w2:=((ak.refl K V6).alloc' _).trans hx;have hf':FE w2 K e7:=by(rw [oL.out];exact hf)
             have hA':=(HX.out.alloc' _).but hx f_;have aM:=(HB.out.alloc' _).but hx bL
             have HR:=ae (And.intro hf' (And.intro bO (And.intro aM hA')));clear hf hx hf' bO hA' aM c6;go_wp2_with fail
             go_meet
             exact HR.out
        case rest=>
         obtain ⟨hF,hx,aM,hA'⟩:=hcut;generalize wc=V7 at*;have HF:=ae hF;have HB:=ae aM;have HX:=ae hA'
         have bV:=ae (bV.out.trans hx);have bw:=ae (hx.ext bw.out bB.out)
         clear hF hx aM hA';obtain ⟨e8,he⟩: ∃e',e'=nd e7 ((bq x.en x.ed&&decide (0<x.en))&&decide (x.en≤x.ed)) 3:=⟨_,rfl⟩;have vE:=ae he;clear he;have c7:=HX.out.cl 7 (i64 x.en) rfl;have c8:=HX.out.cl 8 (i64 x.ed) rfl
         have hq:(bq x.en x.ed=true∧decide (0<x.en)=true)∨(bq x.en x.ed=true∧decide (0<x.en)=false)∨bq x.en x.ed=false:=by
             cases bq x.en x.ed<;>cases decide (0<x.en)<;>simp
         rcases hq with⟨hv,hp⟩|⟨hv,hp⟩|hv
         ·have lN:=ae (eh V7 x.en x.ed FI.out FJ.out)
          rw [hv]at lN;have sw:=ae hv;clear hv
          go_wp2_with fail
          refine lN.out.mono ?_;rintro e w1 ⟨rfl,x1⟩;have c7:=ai x1 c7;have c8:=ai x1 c8;go_wp2_with fail
          refine (aU _ K _ _ _ _ _ _ (HF.out.ext x1)).mono ?_;rintro e w2 ⟨rfl,hf,hx⟩;have bO:ak K V7 w2:=(x1.but K).trans hx;have hf':FE w2 K e8:=by(rw [vE.out];rw [sw.out,hp,Bool.true_and,Bool.true_and];exact hf)
          have hA':=(HX.out.ext x1).but hx f_;have aM:=(HB.out.ext x1).but hx bL
          have HR:=ae (And.intro hf' (And.intro bO (And.intro aM hA')));clear hf hx hf' bO hA' aM c7 c8;go_wp2_with fail
          exact bodyPost_end (v:= .tuple #[]) (by simp [results,Tryz.results59,go_sem]) rfl ⟨rfl,by rw [←kt.out,←j4.out,←nc.out,←ng.out,←qc.out,←vD.out,←oL.out,←vE.out];exact HR.out.1,bV.out.trans HR.out.2.1⟩
         ·have lN:=ae (eh V7 x.en x.ed FI.out FJ.out)
          rw [hv]at lN;have sw:=ae hv;clear hv
          go_wp2_with fail
          refine lN.out.mono ?_;rintro e w1 ⟨rfl,x1⟩;have c7:=ai x1 c7;have c8:=ai x1 c8;go_wp2_with fail
          refine (aU _ K _ _ _ _ _ _ (HF.out.ext x1)).mono ?_;rintro e w2 ⟨rfl,hf,hx⟩;have bO:ak K V7 w2:=(x1.but K).trans hx;have hf':FE w2 K e8:=by(rw [vE.out];rw [sw.out,hp,Bool.true_and,Bool.false_and];exact hf)
          have hA':=(HX.out.ext x1).but hx f_;have aM:=(HB.out.ext x1).but hx bL
          have HR:=ae (And.intro hf' (And.intro bO (And.intro aM hA')));clear hf hx hf' bO hA' aM c7 c8;go_wp2_with fail
          exact bodyPost_end (v:= .tuple #[]) (by simp [results,Tryz.results59,go_sem]) rfl ⟨rfl,by rw [←kt.out,←j4.out,←nc.out,←ng.out,←qc.out,←vD.out,←oL.out,←vE.out];exact HR.out.1,bV.out.trans HR.out.2.1⟩
         ·have lN:=ae (eh V7 x.en x.ed FI.out FJ.out)
          rw [hv]at lN;have sw:=ae hv;clear hv
          go_wp2_with fail
          refine lN.out.mono ?_;rintro e w1 ⟨rfl,x1⟩;have c7:=ai x1 c7;have c8:=ai x1 c8;go_wp2_with fail
          refine (aU _ K _ _ _ _ _ _ (HF.out.ext x1)).mono ?_;rintro e w2 ⟨rfl,hf,hx⟩;have bO:ak K V7 w2:=(x1.but K).trans hx;have hf':FE w2 K e8:=by(rw [vE.out];rw [sw.out,Bool.false_and,Bool.false_and];exact hf)
          have hA':=(HX.out.ext x1).but hx f_;have aM:=(HB.out.ext x1).but hx bL
          have HR:=ae (And.intro hf' (And.intro bO (And.intro aM hA')));clear hf hx hf' bO hA' aM c7 c8;go_wp2_with fail
          exact bodyPost_end (v:= .tuple #[]) (by simp [results,Tryz.results59,go_sem]) rfl ⟨rfl,by rw [←kt.out,←j4.out,←nc.out,←ng.out,←qc.out,←vD.out,←oL.out,←vE.out];exact HR.out.1,bV.out.trans HR.out.2.1⟩
def wE (c:aq) (x:dW) (prev:List ByteArray) (e:Int):Int:=eo (eo (eo (kD (eG e x.name prev) c x.cX) c x.imp 0 1048576) c x.exp 0 1048576) c x.aX (-1048576) 1048576
set_option maxHeartbeats 4000000 in
set_option maxRecDepth 100000 in
theorem I_ (w0 V:World) (K:Nat) (c:aq) (e:Int) (i:Nat) (hi:i<c.aN.length) (hK:w0.heap.size≤K) (hV:Ext w0 V) (hc:aT w0 c) (hn:c.aN.length≤1000000) (h:FE V K e):
 Calls Tryz.prog 60 #[.pointer (some ⟨K,0,none⟩),.agg (C8 c),i64 i] V fun e' w'=>rG V K (wE c c.aN[i] ((c.aN.take i).map dW.name) e) e' w':=by
 try unfold C8
 have vB:=h.lt;have hr:=hc.aN;have hle:=hr.le;have di:=hr.cap
 rw [List.length_map]at hle;obtain ⟨b,o,ha,c0,c1,c2,c3,c4⟩:=(hr.ext hV).aN i hi;have aP:=hc.tie c.aN[i] (List.getElem_mem hi);have wB:=ae (oU c);obtain ⟨prev,iG⟩: ∃prev,prev=(c.aN.take i).map dW.name:=⟨_,rfl⟩;obtain ⟨x,eU⟩: ∃x,x=c.aN[i]:=⟨_,rfl⟩;have qa:Hid (∃h:i<(c.aN.map dW.name).length,(c.aN.map dW.name)[i]=x.name∧(c.aN.map dW.name).take i=prev):=⟨by simpa using hi,by subst eU;simp,by subst iG;rw [List.map_take]⟩;have sZ:Hid ((c.aN.map dW.name).length≤1000000):=by(show _≤_;rw [List.length_map];exact hn)
 rw [←iG,←eU];rw [←eU]at c0 c1 c2 c3 c4 aP;clear iG eU hn;have td:=ae (aP.2.2.2.2);have LA:=ae (aP.2.1);have LB:=ae (aP.2.2.1);have FK:=ae (aP.2.2.2.1);have EH:=ae aP.1;have HV:=ae hV;have dB:=ae hc;have HH:=ae h;have bB:=ae hK
 have fM:(0:Int)≤(i:Int):=by omega
 have fH:(i:Int)<(c.aN.length:Int):=by omega
 unfold wE;have j3:=ae ha;clear hr h hc hV hK aP ha;go_enter Tryz.func60,Tryz.ntmps60
 go_upto_region 1 with fail
 obtain ⟨W0,hW,x0,Z0,A0⟩:=aB V 32 c.cells;rw [show V.alloc (.cells (C8 c) 32)=W0 from hW.symm];clear hW;obtain ⟨B,hB⟩: ∃B,B=V.heap.size:=⟨_,rfl⟩;rw [←hB]at A0⊢;have bL:B≠K:=by omega
 obtain ⟨-,-,k2,k3,k4,k5,k6,k7⟩:=aq.at A0;rw [j3.out]at k6;have c0:=ai x0 c0;have c1:=ai x0 c1;have c2:=ai x0 c2;have c3:=ai x0 c3;have c4:=ai x0 c4;have ju:=ae A0;have X0:=ae x0;have kr:=ae hB
 clear A0 Z0 x0 hB k2 k3 k4 k5 k7;go_upto_region 2 with fail
 obtain ⟨W1,hW1,x1,Z1,A1⟩:=aB W0 84 x.cells;rw [show W0.alloc (.cells #[.string x.name,i64 x.cX,.slice x.ia x.imp.length x.ic,.slice x.ea x.exp.length x.ec,.slice x.pa x.aX.length x.pc] 84)=W1 from hW1.symm];clear hW1 k6 c0 c1 c2 c3 c4;obtain ⟨X,hX⟩: ∃X,X=W0.heap.size:=⟨_,rfl⟩;rw [←hX]at A1⊢;have f_:X≠K:=by have:=X0.out.size;omega
 have HF:=ae ((HH.out.ext X0.out).ext x1);have HX:=ae A1;have HB:=ae (ju.out.ext x1);have bV:Hid (ak K V W1):=(X0.out.trans x1).but K;have bw:Hid (Ext w0 W1):=(HV.out.trans X0.out).trans x1;clear hX A1 Z1 x1 HH ju X0 kr j3 fM fH;obtain ⟨e1,he⟩: ∃e',e'=eG e x.name prev:=⟨_,rfl⟩;have kt:=ae he;clear he;go_upto_region 2 with fail
 go_cut [] (fun wx=>FE wx K e1∧ak K W1 wx∧aG wx B 32 c.cells∧aG wx X 84 x.cells)
 case first=>
  as_aux_lemma=>
   obtain ⟨k0,k1,k2,k3,k4,k5,k6,k7⟩:=aq.at HB.out;go_wp2_with fail
   refine (kG w0 W1 K c _ 5 i prev _ x.name wB.out (by decide) qa.out sZ.out bB.out bw.out dB.out EH.out HF.out).mono ?_;rintro e w2 ⟨rfl,hf,hx⟩;have bO:ak K W1 w2:=hx;have hf':FE w2 K e1:=by(rw [kt.out];exact hf)
   have hA':=HX.out.but hx f_;have aM:=HB.out.but hx bL
   have HR:=ae (And.intro hf' (And.intro bO (And.intro aM hA')));clear hf hx hf' bO hA' aM k0 k1 k2 k3 k4 k5 k6 k7;go_wp2_with fail
   go_meet
   exact HR.out
 case rest=>
  obtain ⟨hF,hx,aM,hA'⟩:=hcut;generalize wc=V1 at*;have HF:=ae hF;have HB:=ae aM;have HX:=ae hA'
  have bV:=ae (bV.out.trans hx);have bw:=ae (hx.ext bw.out bB.out)
  clear hF hx aM hA';obtain ⟨e2,he⟩: ∃e',e'=kD e1 c x.cX:=⟨_,rfl⟩;have j4:=ae he;clear he;go_upto_region 3 with fail
  go_cut [] (fun wx=>FE wx K e2∧ak K V1 wx∧aG wx B 32 c.cells∧aG wx X 84 x.cells)
  case first=>
   as_aux_lemma=>
    obtain ⟨k0,k1,k2,k3,k4,k5,k6,k7⟩:=aq.at HB.out;have c1:=HX.out.cl 1 (i64 x.cX) rfl;go_wp2_with fail
    refine (oT w0 V1 K c _ x.cX _ _ _ bw.out dB.out td.out HF.out).mono ?_;rintro e w2 ⟨rfl,hf,hx⟩;have bO:ak K V1 w2:=hx;have hf':FE w2 K e2:=by(rw [j4.out];exact hf)
    have hA':=HX.out.but hx f_;have aM:=HB.out.but hx bL
    have HR:=ae (And.intro hf' (And.intro bO (And.intro aM hA')));clear hf hx hf' bO hA' aM k0 k1 k2 k3 k4 k5 k6 k7 c1;go_wp2_with fail
    go_meet
    exact HR.out
  case rest=>
   obtain ⟨hF,hx,aM,hA'⟩:=hcut;generalize wc=V2 at*;have HF:=ae hF;have HB:=ae aM;have HX:=ae hA'
   have bV:=ae (bV.out.trans hx);have bw:=ae (hx.ext bw.out bB.out)
   clear hF hx aM hA';obtain ⟨e3,he⟩: ∃e',e'=eo e2 c x.imp 0 1048576:=⟨_,rfl⟩;have nc:=ae he;clear he;go_upto_region 4 with fail
   go_cut [] (fun wx=>FE wx K e3∧ak K V2 wx∧aG wx B 32 c.cells∧aG wx X 84 x.cells)
   case first=>
    as_aux_lemma=>
     obtain ⟨k0,k1,k2,k3,k4,k5,k6,k7⟩:=aq.at HB.out;have c2:=HX.out.cl 2 (.slice x.ia x.imp.length x.ic) rfl;go_wp2_with fail
     refine (jC w0 V2 K c _ x.ia x.ic x.imp _ _ _ _ _ bB.out bw.out LA.out HF.out).mono ?_;rintro e w2 ⟨rfl,hf,hx⟩;have bO:ak K V2 w2:=hx;have hf':FE w2 K e3:=by(rw [nc.out];exact hf)
     have hA':=HX.out.but hx f_;have aM:=HB.out.but hx bL
     have HR:=ae (And.intro hf' (And.intro bO (And.intro aM hA')));clear hf hx hf' bO hA' aM k0 k1 k2 k3 k4 k5 k6 k7 c2;go_wp2_with fail
     go_meet
     exact HR.out
   case rest=>
    obtain ⟨hF,hx,aM,hA'⟩:=hcut;generalize wc=V3 at*;have HF:=ae hF;have HB:=ae aM;have HX:=ae hA'
    have bV:=ae (bV.out.trans hx);have bw:=ae (hx.ext bw.out bB.out)
    clear hF hx aM hA';obtain ⟨e4,he⟩: ∃e',e'=eo e3 c x.exp 0 1048576:=⟨_,rfl⟩;have ng:=ae he;clear he;go_upto_region 5 with fail
    go_cut [] (fun wx=>FE wx K e4∧ak K V3 wx∧aG wx B 32 c.cells∧aG wx X 84 x.cells)
    case first=>
     as_aux_lemma=>
      obtain ⟨k0,k1,k2,k3,k4,k5,k6,k7⟩:=aq.at HB.out;have c3:=HX.out.cl 3 (.slice x.ea x.exp.length x.ec) rfl;go_wp2_with fail
      refine (jC w0 V3 K c _ x.ea x.ec x.exp _ _ _ _ _ bB.out bw.out LB.out HF.out).mono ?_;rintro e w2 ⟨rfl,hf,hx⟩;have bO:ak K V3 w2:=hx;have hf':FE w2 K e4:=by(rw [ng.out];exact hf)
      have hA':=HX.out.but hx f_;have aM:=HB.out.but hx bL
      have HR:=ae (And.intro hf' (And.intro bO (And.intro aM hA')));clear hf hx hf' bO hA' aM k0 k1 k2 k3 k4 k5 k6 k7 c3;go_wp2_with fail
      go_meet
      exact HR.out
    case rest=>
     obtain ⟨hF,hx,aM,hA'⟩:=hcut;generalize wc=V4 at*;have HF:=ae hF;have HB:=ae aM;have HX:=ae hA'
     have bV:=ae (bV.out.trans hx);have bw:=ae (hx.ext bw.out bB.out)
     clear hF hx aM hA'
     as_aux_lemma=>
      obtain ⟨e5,he⟩: ∃e',e'=eo e4 c x.aX (-1048576) 1048576:=⟨_,rfl⟩;have qc:=ae he;clear he;obtain ⟨k0,k1,k2,k3,k4,k5,k6,k7⟩:=aq.at HB.out;have c4:=HX.out.cl 4 (.slice x.pa x.aX.length x.pc) rfl;go_wp2_with fail
      refine (jC w0 V4 K c _ x.pa x.pc x.aX _ _ _ _ _ bB.out bw.out FK.out HF.out).mono ?_;rintro e w2 ⟨rfl,hf,hx⟩;have bO:ak K V4 w2:=hx;have hf':FE w2 K e5:=by(rw [qc.out];exact hf)
      have hA':=HX.out.but hx f_;have aM:=HB.out.but hx bL
      have HR:=ae (And.intro hf' (And.intro bO (And.intro aM hA')));clear hf hx hf' bO hA' aM k0 k1 k2 k3 k4 k5 k6 k7 c4;go_wp2_with fail
      exact bodyPost_end (v:= .tuple #[]) (by simp [results,Tryz.results60,go_sem]) rfl ⟨rfl,by rw [←kt.out,←j4.out,←nc.out,←ng.out,←qc.out];exact HR.out.1,bV.out.trans HR.out.2.1⟩
def St.my (c:aq) (x:cN) (prev:List ByteArray) (i:Int) (s:St):St:=(((s.at 1 i).name x.name prev).dN c 1 x.bU 0 1048576).within 2 x.gF 0 1048576
def St.ln (c:aq) (s:St) (n:Nat):St:=(List.range n).foldl (fun s i=>match c.au[i]? with|some x=>St.my c x ((c.au.take i).map cN.name) i s|none=>s) s
def St.au (s:St) (c:aq):St:=St.ln c s c.au.length
theorem St.wF (c:aq) (s:St) (i:Nat) (h:i<c.au.length):St.ln c s (i+1)=St.my c c.au[i] ((c.au.take i).map cN.name) i (St.ln c s i):=by
 unfold St.ln;rw [List.range_succ,List.foldl_append,List.foldl_cons,List.foldl_nil,List.getElem?_eq_getElem h]
set_option maxHeartbeats 2000000 in
set_option maxRecDepth 100000 in
theorem I' (w0 V:World) (K:Nat) (c:aq) (s:St) (hK:w0.heap.size≤K) (hV:Ext w0 V) (hc:aT w0 c) (hn:c.au.length≤1000000) (h:cY V K c s):
 Calls Tryz.prog 79 #[.pointer (some ⟨K,0,none⟩)] V fun e' w'=>km V K c (s.au c) e' w':=by
 have vB:=h.lt;have hr:=hc.au;have hle:=hr.le;have di:=hr.cap
 rw [List.length_map]at hle;have hen: ∀args w,(callFunc 136 args).run Tryz.prog w= .ok (.enter 136 args) w:=enters_of Tryz.func136 (by kernel_rfl) rfl;have Dm:=ae hen;have HV:=ae hV;have dB:=ae hc;have HH:=ae h;have bB:=ae hK
 unfold St.au;clear hr h hc hV hen hK;go_enter Tryz.func79,Tryz.ntmps79
 go_upto_region 1 with fail
 obtain ⟨W,hW,x0,Z0,A0⟩:=aB V 141 [.pointer (some ⟨K,0,none⟩)];rw [show V.alloc (.cells #[.pointer (some ⟨K,0,none⟩)] 141)=W from hW.symm];clear hW;obtain ⟨B,hB⟩: ∃B,B=V.heap.size:=⟨_,rfl⟩;rw [←hB]at A0⊢;have bL:B≠K:=by omega
 have kb:W.cell? ⟨B,0,none⟩=some (.pointer (some ⟨K,0,none⟩)):=(A0.cell 0).trans rfl;have tj:=HH.out.ext x0;obtain ⟨k0,k1,k2,k3,k4,k5,k6,k7⟩:=cF tj;have ju:=ae A0;have mz:=ae tj;have X0:=ae (x0.but K)
 have kr:=ae hB;clear A0 tj Z0 x0 hB HH;go_wp2_with fail
 clear kb k0 k1 k2 k3 k4 k5 k6 k7;go_loopw [10] (fun ii wr=> ∃i:Nat,i≤c.au.length∧cY wr K c (St.ln c s i)∧ak K V wr∧aG wr B 141 [.pointer (some ⟨K,0,none⟩)]∧ii= .int .i64 i) (fun ii _=>c.au.length-(intOf ii).toNat)
 case atStart=>exact ⟨0,Nat.zero_le _,mz.out,X0.out,ju.out,rfl⟩
 case round=>
  obtain ⟨i,hi,hk,hx,hA,rfl⟩:=hrel;clear ju mz X0;by_cases hlt:i<c.au.length
  ·have hE:=hx.ext HV.out bB.out
   have pU:=ae (St.wF c s i hlt);obtain ⟨b,o,ha,c0,c1,c2⟩:=(dB.out.au.ext hE).au i hlt;have aP:=dB.out.cX c.au[i] (List.getElem_mem hlt);generalize St.ln c s i=s0 at*;obtain ⟨prev,iG⟩: ∃prev,prev=(c.au.take i).map cN.name:=⟨_,rfl⟩;rw [←iG]at pU;have gW:prev.length=i:=by subst iG;simp;omega
   have iY: ∀j (hj:j<prev.length),∃h:j<c.au.length,prev[j]=c.au[j].name:=fun j hj=>⟨by omega,by subst iG;simp⟩;obtain ⟨x,eU⟩: ∃x,x=c.au[i]:=⟨_,rfl⟩;rw [←eU]at c0 c1 c2 aP pU;have nL:=ae aP;have xO:=ae iY;have sq:=ae gW
   have nW:=ae hk;have HX:=ae hx;have HE:=ae hE;have HA:=ae hA
   have kb:wr.cell? ⟨B,0,none⟩=some (.pointer (some ⟨K,0,none⟩)):=(hA.cell 0).trans rfl;have fM:(0:Int)≤(i:Int):=by omega
   have fH:(i:Int)<(c.au.length:Int):=by omega
   clear aP iY gW iG eU hk hx hE hA;rw [ha];go_upto_region 4 with fail
   obtain ⟨W1,hW1,x1,Z1,A1⟩:=aB wr 74 x.cells;rw [show wr.alloc (.cells #[.string x.name,.slice x.da x.bU.length x.dc,i64 x.gF] 74)=W1 from hW1.symm];clear hW1 c0 c1 c2;obtain ⟨E,j5⟩: ∃E,E=wr.heap.size:=⟨_,rfl⟩;rw [←j5]at A1⊢;have dR:E≠K:=by have:=nW.out.lt;omega
   have sx:=nW.out.ext x1;have bt:=ae A1;have dg:=ae (HA.out.ext x1);have nM:ak K V W1:=HX.out.trans (x1.but K);have eP:Ext w0 W1:=HE.out.trans x1;clear j5 A1 Z1 x1 nW HA kb;have kb:=dg.out.cl 0 (.pointer (some ⟨K,0,none⟩)) rfl;obtain ⟨c0,c1,c2⟩:=cN.at bt.out;go_wp2_with fail
   refine (wz W1 K c s0 1 i sx).mono ?_;rintro e W2 ⟨rfl,ni,hx1⟩;obtain ⟨s1,hs1⟩: ∃s',s'=(s0.at 1 i):=⟨_,rfl⟩;rw [←hs1]at ni;have oX:=ae hs1;clear hs1;clear kb c0 c1 c2;have bt:=ae (bt.out.but hx1 dR);have dg:=ae (dg.out.but hx1 bL)
   have pV:ak K V W2:=nM.trans hx1;have eP:Ext w0 W2:=hx1.ext eP bB.out;clear hx1 nM sx;have kb:=dg.out.cl 0 (.pointer (some ⟨K,0,none⟩)) rfl;obtain ⟨c0,c1,c2⟩:=cN.at bt.out
   have jW:s1.err=0→s1.idx=(prev.length:Int):=fun h0=>by
    rw [sq.out];rw [oX.out]at h0⊢;unfold St.at at h0⊢;split
    ·rfl
    ·rename_i hne;rw [if_neg hne]at h0;exact absurd h0 hne
   have HN:=ae (p9 W2 K c s1 x.name nL.out.1 prev 136 B jW (by rw [sq.out];omega) Dm.out (fun V' s' j hj lL FL=>by
    obtain ⟨hj',ej⟩:=xO.out j hj;rw [ej];exact Fk w0 V' K B c s' j bB.out (lL.ext eP bB.out) dB.out FL (aR ((dg.out.cell 0).trans rfl) lL bL) hj') ni)
   clear jW;go_wp2_with fail
   refine HN.out.mono ?_;rintro e W3 ⟨rfl,hK2,hx2⟩;obtain ⟨s2,hs2⟩: ∃s',s'=(s1.name x.name prev):=⟨_,rfl⟩;rw [←hs2]at hK2;have nX:=ae hs2;clear hs2;clear kb c0 c1 c2;have bt:=ae (bt.out.but hx2 dR);have dg:=ae (dg.out.but hx2 bL)
   have qQ:ak K V W3:=pV.trans hx2;have eP:Ext w0 W3:=hx2.ext eP bB.out;clear hx2 pV ni;have kb:=dg.out.cl 0 (.pointer (some ⟨K,0,none⟩)) rfl;obtain ⟨c0,c1,c2⟩:=cN.at bt.out;go_wp2_with fail
   refine (kC w0 W3 K c s2 1 0 1048576 x.da x.dc x.bU bB.out eP nL.out.2.1 hK2).mono ?_;rintro e W4 ⟨rfl,hK3,hx3⟩;obtain ⟨s3,hs3⟩: ∃s',s'=(s2.dN c 1 x.bU 0 1048576):=⟨_,rfl⟩;rw [←hs3]at hK3;have Ad:=ae hs3;clear hs3;clear kb c0 c1 c2;have bt:=ae (bt.out.but hx3 dR);have dg:=ae (dg.out.but hx3 bL)
   have vF:ak K V W4:=qQ.trans hx3;have eP:Ext w0 W4:=hx3.ext eP bB.out;clear hx3 qQ hK2;have kb:=dg.out.cl 0 (.pointer (some ⟨K,0,none⟩)) rfl;obtain ⟨c0,c1,c2⟩:=cN.at bt.out;go_wp2_with fail
   refine (bM W4 K c s3 2 x.gF 0 1048576 hK3).mono ?_;rintro e W5 ⟨rfl,hK4,fN⟩;obtain ⟨s4,nj⟩: ∃s',s'=(s3.within 2 x.gF 0 1048576):=⟨_,rfl⟩;rw [←nj]at hK4;have Ck:=ae nj;clear nj;clear kb c0 c1 c2;have bt:=ae (bt.out.but fN dR);have dg:=ae (dg.out.but fN bL)
   have rK:ak K V W5:=vF.trans fN;have eP:Ext w0 W5:=fN.ext eP bB.out;clear fN vF hK3;go_wp2_with fail
   exact ⟨⟨i+1,by omega,by rw [pU.out];unfold St.my;rw [←oX.out,←nX.out,←Ad.out,←Ck.out];exact hK4,rK,dg.out,by go_num⟩,by simp only [intOf];omega⟩
  ·obtain rfl:i=c.au.length:=by omega
   go_wp2_with fail
   exact bodyPost_end (v:= .tuple #[]) (by simp [results,Tryz.results79,go_sem]) rfl ⟨rfl,hk,hx⟩
def St.oY (c:aq) (x:dW) (prev:List ByteArray) (i:Int) (s:St):St:=(((((s.at 5 i).name x.name prev).cX c 1 x.cX).dN c 2 x.imp 0 1048576).dN c 3 x.exp 0 1048576).dN c 4 x.aX (-1048576) 1048576
def St.oq (c:aq) (s:St) (n:Nat):St:=(List.range n).foldl (fun s i=>match c.aN[i]? with|some x=>St.oY c x ((c.aN.take i).map dW.name) i s|none=>s) s
def St.aN (s:St) (c:aq):St:=St.oq c s c.aN.length
theorem St.yu (c:aq) (s:St) (i:Nat) (h:i<c.aN.length):St.oq c s (i+1)=St.oY c c.aN[i] ((c.aN.take i).map dW.name) i (St.oq c s i):=by
 unfold St.oq;rw [List.range_succ,List.foldl_append,List.foldl_cons,List.foldl_nil,List.getElem?_eq_getElem h]
set_option maxHeartbeats 2000000 in
set_option maxRecDepth 100000 in
theorem LC (w0 V:World) (K:Nat) (c:aq) (s:St) (hK:w0.heap.size≤K) (hV:Ext w0 V) (hc:aT w0 c) (hn:c.aN.length≤1000000) (h:cY V K c s):
 Calls Tryz.prog 83 #[.pointer (some ⟨K,0,none⟩)] V fun e' w'=>km V K c (s.aN c) e' w':=by
 have vB:=h.lt;have hr:=hc.aN;have hle:=hr.le;have di:=hr.cap
 rw [List.length_map]at hle;have hen: ∀args w,(callFunc 144 args).run Tryz.prog w= .ok (.enter 144 args) w:=enters_of Tryz.func144 (by kernel_rfl) rfl;have Dm:=ae hen;have HV:=ae hV;have dB:=ae hc;have HH:=ae h;have bB:=ae hK
 unfold St.aN;clear hr h hc hV hen hK;go_enter Tryz.func83,Tryz.ntmps83
 go_upto_region 1 with fail
 obtain ⟨W,hW,x0,Z0,A0⟩:=aB V 141 [.pointer (some ⟨K,0,none⟩)];rw [show V.alloc (.cells #[.pointer (some ⟨K,0,none⟩)] 141)=W from hW.symm];clear hW;obtain ⟨B,hB⟩: ∃B,B=V.heap.size:=⟨_,rfl⟩;rw [←hB]at A0⊢;have bL:B≠K:=by omega
 have kb:W.cell? ⟨B,0,none⟩=some (.pointer (some ⟨K,0,none⟩)):=(A0.cell 0).trans rfl;have tj:=HH.out.ext x0;obtain ⟨k0,k1,k2,k3,k4,k5,k6,k7⟩:=cF tj;have ju:=ae A0;have mz:=ae tj;have X0:=ae (x0.but K)
 have kr:=ae hB;clear A0 tj Z0 x0 hB HH;go_wp2_with fail
 clear kb k0 k1 k2 k3 k4 k5 k6 k7;go_loopw [10] (fun ii wr=> ∃i:Nat,i≤c.aN.length∧cY wr K c (St.oq c s i)∧ak K V wr∧aG wr B 141 [.pointer (some ⟨K,0,none⟩)]∧ii= .int .i64 i) (fun ii _=>c.aN.length-(intOf ii).toNat)
 case atStart=>exact ⟨0,Nat.zero_le _,mz.out,X0.out,ju.out,rfl⟩
 case round=>
  obtain ⟨i,hi,hk,hx,hA,rfl⟩:=hrel;clear ju mz X0;by_cases hlt:i<c.aN.length
  ·have hE:=hx.ext HV.out bB.out
   have pU:=ae (St.yu c s i hlt);obtain ⟨b,o,ha,c0,c1,c2,c3,c4⟩:=(dB.out.aN.ext hE).aN i hlt;have aP:=dB.out.tie c.aN[i] (List.getElem_mem hlt);generalize St.oq c s i=s0 at*;obtain ⟨prev,iG⟩: ∃prev,prev=(c.aN.take i).map dW.name:=⟨_,rfl⟩;rw [←iG]at pU;have gW:prev.length=i:=by subst iG;simp;omega
   have iY: ∀j (hj:j<prev.length),∃h:j<c.aN.length,prev[j]=c.aN[j].name:=fun j hj=>⟨by omega,by subst iG;simp⟩;obtain ⟨x,eU⟩: ∃x,x=c.aN[i]:=⟨_,rfl⟩;rw [←eU]at c0 c1 c2 c3 c4 aP pU;have nL:=ae aP;have xO:=ae iY;have sq:=ae gW
   have nW:=ae hk;have HX:=ae hx;have HE:=ae hE;have HA:=ae hA
   have kb:wr.cell? ⟨B,0,none⟩=some (.pointer (some ⟨K,0,none⟩)):=(hA.cell 0).trans rfl;have fM:(0:Int)≤(i:Int):=by omega
   have fH:(i:Int)<(c.aN.length:Int):=by omega
   clear aP iY gW iG eU hk hx hE hA;rw [ha];go_upto_region 4 with fail
   obtain ⟨W1,hW1,x1,Z1,A1⟩:=aB wr 84 x.cells;rw [show wr.alloc (.cells #[.string x.name,i64 x.cX,.slice x.ia x.imp.length x.ic,.slice x.ea x.exp.length x.ec,.slice x.pa x.aX.length x.pc] 84)=W1 from hW1.symm];clear hW1 c0 c1 c2 c3 c4;obtain ⟨E,j5⟩: ∃E,E=wr.heap.size:=⟨_,rfl⟩;rw [←j5]at A1⊢;have dR:E≠K:=by have:=nW.out.lt;omega
   have sx:=nW.out.ext x1;have bt:=ae A1;have dg:=ae (HA.out.ext x1);have nM:ak K V W1:=HX.out.trans (x1.but K);have eP:Ext w0 W1:=HE.out.trans x1;clear j5 A1 Z1 x1 nW HA kb;have kb:=dg.out.cl 0 (.pointer (some ⟨K,0,none⟩)) rfl;obtain ⟨c0,c1,c2,c3,c4⟩:=dW.at bt.out;go_wp2_with fail
   refine (wz W1 K c s0 5 i sx).mono ?_;rintro e W2 ⟨rfl,ni,hx1⟩;obtain ⟨s1,hs1⟩: ∃s',s'=(s0.at 5 i):=⟨_,rfl⟩;rw [←hs1]at ni;have oX:=ae hs1;clear hs1;clear kb c0 c1 c2 c3 c4;have bt:=ae (bt.out.but hx1 dR);have dg:=ae (dg.out.but hx1 bL)
   have pV:ak K V W2:=nM.trans hx1;have eP:Ext w0 W2:=hx1.ext eP bB.out;clear hx1 nM sx;have kb:=dg.out.cl 0 (.pointer (some ⟨K,0,none⟩)) rfl;obtain ⟨c0,c1,c2,c3,c4⟩:=dW.at bt.out
   have jW:s1.err=0→s1.idx=(prev.length:Int):=fun h0=>by
    rw [sq.out];rw [oX.out]at h0⊢;unfold St.at at h0⊢;split
    ·rfl
    ·rename_i hne;rw [if_neg hne]at h0;exact absurd h0 hne
   have HN:=ae (p9 W2 K c s1 x.name nL.out.1 prev 144 B jW (by rw [sq.out];omega) Dm.out (fun V' s' j hj lL FL=>by
    obtain ⟨hj',ej⟩:=xO.out j hj;rw [ej];exact I7 w0 V' K B c s' j bB.out (lL.ext eP bB.out) dB.out FL (aR ((dg.out.cell 0).trans rfl) lL bL) hj') ni)
   clear jW;go_wp2_with fail
   refine HN.out.mono ?_;rintro e W3 ⟨rfl,hK2,hx2⟩;obtain ⟨s2,hs2⟩: ∃s',s'=(s1.name x.name prev):=⟨_,rfl⟩;rw [←hs2]at hK2;have nX:=ae hs2;clear hs2;clear kb c0 c1 c2 c3 c4;have bt:=ae (bt.out.but hx2 dR);have dg:=ae (dg.out.but hx2 bL)
   have qQ:ak K V W3:=pV.trans hx2;have eP:Ext w0 W3:=hx2.ext eP bB.out;clear hx2 pV ni;have kb:=dg.out.cl 0 (.pointer (some ⟨K,0,none⟩)) rfl;obtain ⟨c0,c1,c2,c3,c4⟩:=dW.at bt.out;go_wp2_with fail
   refine (yj W3 K c s2 1 x.cX hK2).mono ?_;rintro e W4 ⟨rfl,hK3,hx3⟩;obtain ⟨s3,hs3⟩: ∃s',s'=(s2.cX c 1 x.cX):=⟨_,rfl⟩;rw [←hs3]at hK3;have Ad:=ae hs3;clear hs3;clear kb c0 c1 c2 c3 c4;have bt:=ae (bt.out.but hx3 dR);have dg:=ae (dg.out.but hx3 bL)
   have vF:ak K V W4:=qQ.trans hx3;have eP:Ext w0 W4:=hx3.ext eP bB.out;clear hx3 qQ hK2;have kb:=dg.out.cl 0 (.pointer (some ⟨K,0,none⟩)) rfl;obtain ⟨c0,c1,c2,c3,c4⟩:=dW.at bt.out;go_wp2_with fail
   refine (kC w0 W4 K c s3 2 0 1048576 x.ia x.ic x.imp bB.out eP nL.out.2.1 hK3).mono ?_;rintro e W5 ⟨rfl,hK4,fN⟩;obtain ⟨s4,nj⟩: ∃s',s'=(s3.dN c 2 x.imp 0 1048576):=⟨_,rfl⟩;rw [←nj]at hK4;have Ck:=ae nj;clear nj;clear kb c0 c1 c2 c3 c4;have bt:=ae (bt.out.but fN dR);have dg:=ae (dg.out.but fN bL)
   have rK:ak K V W5:=vF.trans fN;have eP:Ext w0 W5:=fN.ext eP bB.out;clear fN vF hK3;have kb:=dg.out.cl 0 (.pointer (some ⟨K,0,none⟩)) rfl;obtain ⟨c0,c1,c2,c3,c4⟩:=dW.at bt.out;go_wp2_with fail
   refine (kC w0 W5 K c s4 3 0 1048576 x.ea x.ec x.exp bB.out eP nL.out.2.2.1 hK4).mono ?_;rintro e W6 ⟨rfl,jX,dA⟩;obtain ⟨s5,hs5⟩: ∃s',s'=(s4.dN c 3 x.exp 0 1048576):=⟨_,rfl⟩;rw [←hs5]at jX;have Fv:=ae hs5;clear hs5;clear kb c0 c1 c2 c3 c4;have bt:=ae (bt.out.but dA dR);have dg:=ae (dg.out.but dA bL)
   have Cm:ak K V W6:=rK.trans dA;have eP:Ext w0 W6:=dA.ext eP bB.out;clear dA rK hK4;have kb:=dg.out.cl 0 (.pointer (some ⟨K,0,none⟩)) rfl;obtain ⟨c0,c1,c2,c3,c4⟩:=dW.at bt.out;go_wp2_with fail
   refine (kC w0 W6 K c s5 4 (-1048576) 1048576 x.pa x.pc x.aX bB.out eP nL.out.2.2.2.1 jX).mono ?_;rintro e W7 ⟨rfl,jF,eT⟩;obtain ⟨s6,Cn⟩: ∃s',s'=(s5.dN c 4 x.aX (-1048576) 1048576):=⟨_,rfl⟩;rw [←Cn]at jF;have Ja:=ae Cn;clear Cn;clear kb c0 c1 c2 c3 c4;have bt:=ae (bt.out.but eT dR);have dg:=ae (dg.out.but eT bL)
   have Dn:ak K V W7:=Cm.trans eT;have eP:Ext w0 W7:=eT.ext eP bB.out;clear eT Cm jX;go_wp2_with fail
   exact ⟨⟨i+1,by omega,by rw [pU.out];unfold St.oY;rw [←oX.out,←nX.out,←Ad.out,←Ck.out,←Fv.out,←Ja.out];exact jF,Dn,dg.out,by go_num⟩,by simp only [intOf];omega⟩
  ·obtain rfl:i=c.aN.length:=by omega
   go_wp2_with fail
   exact bodyPost_end (v:= .tuple #[]) (by simp [results,Tryz.results83,go_sem]) rfl ⟨rfl,hk,hx⟩
def St.mA (c:aq) (x:aS) (prev:List ByteArray) (i:Int) (s:St):St:=((((((((((s.at 2 i).name x.name prev).cX c 1 x.cd).cX c 2 x.ie).need (x.ie !=x.cd) 2 1).need (bq x.rn x.rd&&decide (0<x.rn)) 3 3).need (bq x.iH x.kq&&decide (x.iH≤0)) 4 3).need (bq x.iO x.lg&&decide (0≤x.iO)) 5 3).within 6 x.cf 0 1048576).within 7 x.gw x.cf 1048576).away c 8 x.away
def St.lp (c:aq) (s:St) (n:Nat):St:=(List.range n).foldl (fun s i=>match c.lines[i]? with|some x=>St.mA c x ((c.lines.take i).map aS.name) i s|none=>s) s
def St.lines (s:St) (c:aq):St:=St.lp c s c.lines.length
theorem St.wG (c:aq) (s:St) (i:Nat) (h:i<c.lines.length):St.lp c s (i+1)=St.mA c c.lines[i] ((c.lines.take i).map aS.name) i (St.lp c s i):=by
 unfold St.lp;rw [List.range_succ,List.foldl_append,List.foldl_cons,List.foldl_nil,List.getElem?_eq_getElem h]
set_option maxHeartbeats 2000000 in
set_option maxRecDepth 100000 in
theorem Jb (w0 V:World) (K:Nat) (c:aq) (s:St) (hK:w0.heap.size≤K) (hV:Ext w0 V) (hc:aT w0 c) (hn:c.lines.length≤1000000) (h:cY V K c s):
 Calls Tryz.prog 80 #[.pointer (some ⟨K,0,none⟩)] V fun e' w'=>km V K c (s.lines c) e' w':=by
 have vB:=h.lt;have hr:=hc.lines;have hle:=hr.le;have di:=hr.cap
 rw [List.length_map]at hle;have hen: ∀args w,(callFunc 137 args).run Tryz.prog w= .ok (.enter 137 args) w:=enters_of Tryz.func137 (by kernel_rfl) rfl;have Dm:=ae hen;have HV:=ae hV;have dB:=ae hc;have HH:=ae h;have bB:=ae hK
 unfold St.lines;clear hr h hc hV hen hK;go_enter Tryz.func80,Tryz.ntmps80
 go_upto_region 1 with fail
 obtain ⟨W,hW,x0,Z0,A0⟩:=aB V 141 [.pointer (some ⟨K,0,none⟩)];rw [show V.alloc (.cells #[.pointer (some ⟨K,0,none⟩)] 141)=W from hW.symm];clear hW;obtain ⟨B,hB⟩: ∃B,B=V.heap.size:=⟨_,rfl⟩;rw [←hB]at A0⊢;have bL:B≠K:=by omega
 have kb:W.cell? ⟨B,0,none⟩=some (.pointer (some ⟨K,0,none⟩)):=(A0.cell 0).trans rfl;have tj:=HH.out.ext x0;obtain ⟨k0,k1,k2,k3,k4,k5,k6,k7⟩:=cF tj;have ju:=ae A0;have mz:=ae tj;have X0:=ae (x0.but K)
 have kr:=ae hB;clear A0 tj Z0 x0 hB HH;go_wp2_with fail
 clear kb k0 k1 k2 k3 k4 k5 k6 k7;go_loopw [10] (fun ii wr=> ∃i:Nat,i≤c.lines.length∧cY wr K c (St.lp c s i)∧ak K V wr∧aG wr B 141 [.pointer (some ⟨K,0,none⟩)]∧ii= .int .i64 i) (fun ii _=>c.lines.length-(intOf ii).toNat)
 case atStart=>exact ⟨0,Nat.zero_le _,mz.out,X0.out,ju.out,rfl⟩
 case round=>
  obtain ⟨i,hi,hk,hx,hA,rfl⟩:=hrel;clear ju mz X0;by_cases hlt:i<c.lines.length
  ·have hE:=hx.ext HV.out bB.out
   have pU:=ae (St.wG c s i hlt);obtain ⟨b,o,ha,c0,c1,c2,c3,c4,c5,c6,c7,c8,c9,c10,c11⟩:=(dB.out.lines.ext hE).lines i hlt;have aP:=dB.out.line c.lines[i] (List.getElem_mem hlt);generalize St.lp c s i=s0 at*;obtain ⟨prev,iG⟩: ∃prev,prev=(c.lines.take i).map aS.name:=⟨_,rfl⟩;rw [←iG]at pU;have gW:prev.length=i:=by subst iG;simp;omega
   have iY: ∀j (hj:j<prev.length),∃h:j<c.lines.length,prev[j]=c.lines[j].name:=fun j hj=>⟨by omega,by subst iG;simp⟩;obtain ⟨x,eU⟩: ∃x,x=c.lines[i]:=⟨_,rfl⟩;rw [←eU]at c0 c1 c2 c3 c4 c5 c6 c7 c8 c9 c10 c11 aP pU;have nL:=ae aP;have xO:=ae iY;have sq:=ae gW
   have nW:=ae hk;have HX:=ae hx;have HE:=ae hE;have HA:=ae hA
   have kb:wr.cell? ⟨B,0,none⟩=some (.pointer (some ⟨K,0,none⟩)):=(hA.cell 0).trans rfl;have fM:(0:Int)≤(i:Int):=by omega
   have fH:(i:Int)<(c.lines.length:Int):=by omega
   clear aP iY gW iG eU hk hx hE hA;rw [ha];go_upto_region 4 with fail
   obtain ⟨W1,hW1,x1,Z1,A1⟩:=aB wr 78 x.cells;rw [show wr.alloc (.cells #[.string x.name,i64 x.cd,i64 x.ie,i64 x.rn,i64 x.rd,i64 x.iH,i64 x.kq,i64 x.iO,i64 x.lg,i64 x.cf,i64 x.gw,.slice x.aa x.away.length x.ac] 78)=W1 from hW1.symm];clear hW1 c0 c1 c2 c3 c4 c5 c6 c7 c8 c9 c10 c11;obtain ⟨E,j5⟩: ∃E,E=wr.heap.size:=⟨_,rfl⟩;rw [←j5]at A1⊢;have dR:E≠K:=by have:=nW.out.lt;omega
   have sx:=nW.out.ext x1;have bt:=ae A1;have dg:=ae (HA.out.ext x1);have nM:ak K V W1:=HX.out.trans (x1.but K);have eP:Ext w0 W1:=HE.out.trans x1;clear j5 A1 Z1 x1 nW HA kb;have kb:=dg.out.cl 0 (.pointer (some ⟨K,0,none⟩)) rfl;obtain ⟨c0,c1,c2,c3,c4,c5,c6,c7,c8,c9,c10,c11⟩:=aS.at bt.out;go_wp2_with fail
   refine (wz W1 K c s0 2 i sx).mono ?_;rintro e W2 ⟨rfl,ni,hx1⟩;obtain ⟨s1,hs1⟩: ∃s',s'=(s0.at 2 i):=⟨_,rfl⟩;rw [←hs1]at ni;have oX:=ae hs1;clear hs1;clear kb c0 c1 c2 c3 c4 c5 c6 c7 c8 c9 c10 c11;have bt:=ae (bt.out.but hx1 dR);have dg:=ae (dg.out.but hx1 bL)
   have pV:ak K V W2:=nM.trans hx1;have eP:Ext w0 W2:=hx1.ext eP bB.out;clear hx1 nM sx;have kb:=dg.out.cl 0 (.pointer (some ⟨K,0,none⟩)) rfl;obtain ⟨c0,c1,c2,c3,c4,c5,c6,c7,c8,c9,c10,c11⟩:=aS.at bt.out
   have jW:s1.err=0→s1.idx=(prev.length:Int):=fun h0=>by
    rw [sq.out];rw [oX.out]at h0⊢;unfold St.at at h0⊢;split
    ·rfl
    ·rename_i hne;rw [if_neg hne]at h0;exact absurd h0 hne
   have HN:=ae (p9 W2 K c s1 x.name nL.out.1 prev 137 B jW (by rw [sq.out];omega) Dm.out (fun V' s' j hj lL FL=>by
    obtain ⟨hj',ej⟩:=xO.out j hj;rw [ej];exact Fl w0 V' K B c s' j bB.out (lL.ext eP bB.out) dB.out FL (aR ((dg.out.cell 0).trans rfl) lL bL) hj') ni)
   clear jW;go_wp2_with fail
   refine HN.out.mono ?_;rintro e W3 ⟨rfl,hK2,hx2⟩;obtain ⟨s2,hs2⟩: ∃s',s'=(s1.name x.name prev):=⟨_,rfl⟩;rw [←hs2]at hK2;have nX:=ae hs2;clear hs2;clear kb c0 c1 c2 c3 c4 c5 c6 c7 c8 c9 c10 c11;have bt:=ae (bt.out.but hx2 dR);have dg:=ae (dg.out.but hx2 bL)
   have qQ:ak K V W3:=pV.trans hx2;have eP:Ext w0 W3:=hx2.ext eP bB.out;clear hx2 pV ni;have kb:=dg.out.cl 0 (.pointer (some ⟨K,0,none⟩)) rfl;obtain ⟨c0,c1,c2,c3,c4,c5,c6,c7,c8,c9,c10,c11⟩:=aS.at bt.out;go_wp2_with fail
   refine (yj W3 K c s2 1 x.cd hK2).mono ?_;rintro e W4 ⟨rfl,hK3,hx3⟩;obtain ⟨s3,hs3⟩: ∃s',s'=(s2.cX c 1 x.cd):=⟨_,rfl⟩;rw [←hs3]at hK3;have Ad:=ae hs3;clear hs3;clear kb c0 c1 c2 c3 c4 c5 c6 c7 c8 c9 c10 c11;have bt:=ae (bt.out.but hx3 dR);have dg:=ae (dg.out.but hx3 bL)
   have vF:ak K V W4:=qQ.trans hx3;have eP:Ext w0 W4:=hx3.ext eP bB.out;clear hx3 qQ hK2;have kb:=dg.out.cl 0 (.pointer (some ⟨K,0,none⟩)) rfl;obtain ⟨c0,c1,c2,c3,c4,c5,c6,c7,c8,c9,c10,c11⟩:=aS.at bt.out;go_wp2_with fail
   refine (yj W4 K c s3 2 x.ie hK3).mono ?_;rintro e W5 ⟨rfl,hK4,fN⟩;obtain ⟨s4,nj⟩: ∃s',s'=(s3.cX c 2 x.ie):=⟨_,rfl⟩;rw [←nj]at hK4;have Ck:=ae nj;clear nj;clear kb c0 c1 c2 c3 c4 c5 c6 c7 c8 c9 c10 c11;have bt:=ae (bt.out.but fN dR);have dg:=ae (dg.out.but fN bL)
   have rK:ak K V W5:=vF.trans fN;have eP:Ext w0 W5:=fN.ext eP bB.out;clear fN vF hK3;have kb:=dg.out.cl 0 (.pointer (some ⟨K,0,none⟩)) rfl;obtain ⟨c0,c1,c2,c3,c4,c5,c6,c7,c8,c9,c10,c11⟩:=aS.at bt.out;go_wp2_with fail
   refine (bN W5 K c s4 (x.ie !=x.cd) 2 1 hK4).mono ?_;rintro e W6 ⟨rfl,jX,dA⟩;obtain ⟨s5,hs5⟩: ∃s',s'=(s4.need (x.ie !=x.cd) 2 1):=⟨_,rfl⟩;rw [←hs5]at jX;have Fv:=ae hs5;clear hs5;clear kb c0 c1 c2 c3 c4 c5 c6 c7 c8 c9 c10 c11;have bt:=ae (bt.out.but dA dR);have dg:=ae (dg.out.but dA bL)
   have Cm:ak K V W6:=rK.trans dA;have eP:Ext w0 W6:=dA.ext eP bB.out;clear dA rK hK4;have kb:=dg.out.cl 0 (.pointer (some ⟨K,0,none⟩)) rfl;obtain ⟨c0,c1,c2,c3,c4,c5,c6,c7,c8,c9,c10,c11⟩:=aS.at bt.out;go_upto_region 9 with fail
   go_cut [] (fun wx=>cY wx K c ((s5.need (bq x.rn x.rd&&decide (0<x.rn)) 3 3))∧ak K W6 wx∧aG wx E 78 x.cells∧aG wx B 141 [.pointer (some ⟨K,0,none⟩)])
   case first=>
    rcases Bool.eq_false_or_eq_true (bq x.rn x.rd)with hv|hv
    ·refine ay (fun w'=>w'.cell? ⟨B,0,none⟩=some (.pointer (some ⟨K,0,none⟩))∧w'.cell? ⟨E,3,none⟩=some (i64 x.rn)∧w'.cell? ⟨E,4,none⟩=some (i64 x.rd)) (fun w'=>True) (fun i=>false) (by kernel_rfl) (⟨kb,c3,c4⟩) (trivial) (fun ar ah=> ?_)
     refine av 0 (.pointer (some ⟨K,0,none⟩)) rfl ar ah ?_;simp only [sS];refine av 1 (.pointer (some ⟨E,3,none⟩)) rfl ar ah ?_;simp only [sS];refine av 2 (.agg #[i64 x.rn,i64 x.rd]) rfl ar ah ?_;simp only [sS];refine cG 3 rfl (fun Kc hK=> ?_);go_simp;refine (ir W6.drew x.rn x.rd).mono ?_;rintro e z1 ⟨rfl,xz⟩;rw [hv];refine hK.out _ _ (⟨ai xz kb,ai xz c3,ai xz c4⟩) (trivial) (fun ar ah=> ?_);clear hK Kc;try simp only [sS]
     refine av 4 (.bool true) rfl ar ah ?_;simp only [sS];refine av 5 (.pointer (some ⟨E,3,none⟩)) rfl ar ah ?_;simp only [sS];refine av 6 (.pointer (some ⟨E,3,none⟩)) rfl ar ah ?_;simp only [sS];refine av 7 (i64 x.rn) rfl ar ah ?_;simp only [sS];refine av 8 (.bool (decide (0<x.rn))) rfl ar ah ?_;simp only [sS];refine av 9 (.bool (decide (0<x.rn))) rfl ar ah ?_;simp only [sS];refine cG 10 rfl (fun Kc hK=> ?_);go_simp;refine (bN z1 K c s5 (decide (0<x.rn)) 3 3 (jX.ext (((Ext.refl _).drew).trans xz))).mono ?_;rintro e W7 ⟨rfl,jF,mB⟩;have eT:ak K W6 W7:=((((Ext.refl _).drew).trans xz).but K).trans mB;refine hK.out _ _ (⟨aR kb eT bL,aR c3 eT dR,aR c4 eT dR⟩) (trivial) (fun ar ah=> ?_);clear hK Kc;try simp only [sS]
     refine ax (by kernel_rfl) ?_ _;clear ar ah mB xz;have jF:cY W7 K c (s5.need (bq x.rn x.rd&&decide (0<x.rn)) 3 3):=by rw [hv];simpa using jF
     clear hv;go_wp2_with fail
     go_meet
     exact ⟨jF,eT,bt.out.but eT dR,dg.out.but eT bL⟩
    ·refine ay (fun w'=>w'.cell? ⟨B,0,none⟩=some (.pointer (some ⟨K,0,none⟩))∧w'.cell? ⟨E,3,none⟩=some (i64 x.rn)∧w'.cell? ⟨E,4,none⟩=some (i64 x.rd)) (fun w'=>True) (fun i=>false) (by kernel_rfl) (⟨kb,c3,c4⟩) (trivial) (fun ar ah=> ?_)
     refine av 0 (.pointer (some ⟨K,0,none⟩)) rfl ar ah ?_;simp only [sS];refine av 1 (.pointer (some ⟨E,3,none⟩)) rfl ar ah ?_;simp only [sS];refine av 2 (.agg #[i64 x.rn,i64 x.rd]) rfl ar ah ?_;simp only [sS];refine cG 3 rfl (fun Kc hK=> ?_);go_simp;refine (ir W6.drew x.rn x.rd).mono ?_;rintro e z1 ⟨rfl,xz⟩;rw [hv];refine hK.out _ _ (⟨ai xz kb,ai xz c3,ai xz c4⟩) (trivial) (fun ar ah=> ?_);clear hK Kc;try simp only [sS]
     refine av 4 (.bool false) rfl ar ah ?_;simp only [sS];refine cA 5 rfl ar ah ?_;simp only [sS];refine cA 6 rfl ar ah ?_;simp only [sS];refine cA 7 rfl ar ah ?_;simp only [sS];refine cA 8 rfl ar ah ?_;simp only [sS];refine av 9 (.bool false) rfl ar ah ?_;simp only [sS];refine cG 10 rfl (fun Kc hK=> ?_);go_simp;refine (bN z1 K c s5 (false) 3 3 (jX.ext (((Ext.refl _).drew).trans xz))).mono ?_;rintro e W7 ⟨rfl,jF,mB⟩;have eT:ak K W6 W7:=((((Ext.refl _).drew).trans xz).but K).trans mB;refine hK.out _ _ (⟨aR kb eT bL,aR c3 eT dR,aR c4 eT dR⟩) (trivial) (fun ar ah=> ?_);clear hK Kc;try simp only [sS]
     refine ax (by kernel_rfl) ?_ _;clear ar ah mB xz;have jF:cY W7 K c (s5.need (bq x.rn x.rd&&decide (0<x.rn)) 3 3):=by rw [hv];simpa using jF
     clear hv;go_wp2_with fail
     go_meet
     exact ⟨jF,eT,bt.out.but eT dR,dg.out.but eT bL⟩
   case rest=>
    obtain ⟨jF,eT,O7,hcB⟩:=hcut;generalize wc=W7 at*;clear O7 hcB;obtain ⟨s6,Cn⟩: ∃s',s'=(s5.need (bq x.rn x.rd&&decide (0<x.rn)) 3 3):=⟨_,rfl⟩;rw [←Cn]at jF;have Ja:=ae Cn;clear Cn;clear kb c0 c1 c2 c3 c4 c5 c6 c7 c8 c9 c10 c11;have bt:=ae (bt.out.but eT dR);have dg:=ae (dg.out.but eT bL)
    have Dn:ak K V W7:=Cm.trans eT;have eP:Ext w0 W7:=eT.ext eP bB.out;clear eT Cm jX;have kb:=dg.out.cl 0 (.pointer (some ⟨K,0,none⟩)) rfl;obtain ⟨c0,c1,c2,c3,c4,c5,c6,c7,c8,c9,c10,c11⟩:=aS.at bt.out;go_upto_region 10 with fail
    go_cut [] (fun wx=>cY wx K c ((s6.need (bq x.iH x.kq&&decide (x.iH≤0)) 4 3))∧ak K W7 wx∧aG wx E 78 x.cells∧aG wx B 141 [.pointer (some ⟨K,0,none⟩)])
    case first=>
     rcases Bool.eq_false_or_eq_true (bq x.iH x.kq)with hv|hv
     ·refine ay (fun w'=>w'.cell? ⟨B,0,none⟩=some (.pointer (some ⟨K,0,none⟩))∧w'.cell? ⟨E,5,none⟩=some (i64 x.iH)∧w'.cell? ⟨E,6,none⟩=some (i64 x.kq)) (fun w'=>True) (fun i=>false) (by kernel_rfl) (⟨kb,c5,c6⟩) (trivial) (fun ar ah=> ?_)
      refine av 0 (.pointer (some ⟨K,0,none⟩)) rfl ar ah ?_;simp only [sS];refine av 1 (.pointer (some ⟨E,5,none⟩)) rfl ar ah ?_;simp only [sS];refine av 2 (.agg #[i64 x.iH,i64 x.kq]) rfl ar ah ?_;simp only [sS];refine cG 3 rfl (fun Kc hK=> ?_);go_simp;refine (ir W7.drew x.iH x.kq).mono ?_;rintro e z1 ⟨rfl,xz⟩;rw [hv];refine hK.out _ _ (⟨ai xz kb,ai xz c5,ai xz c6⟩) (trivial) (fun ar ah=> ?_);clear hK Kc;try simp only [sS]
      refine av 4 (.bool true) rfl ar ah ?_;simp only [sS];refine av 5 (.pointer (some ⟨E,5,none⟩)) rfl ar ah ?_;simp only [sS];refine av 6 (.pointer (some ⟨E,5,none⟩)) rfl ar ah ?_;simp only [sS];refine av 7 (i64 x.iH) rfl ar ah ?_;simp only [sS];refine av 8 (.bool (decide (x.iH≤0))) rfl ar ah ?_;simp only [sS];refine av 9 (.bool (decide (x.iH≤0))) rfl ar ah ?_;simp only [sS];refine cG 10 rfl (fun Kc hK=> ?_);go_simp;refine (bN z1 K c s6 (decide (x.iH≤0)) 4 3 (jF.ext (((Ext.refl _).drew).trans xz))).mono ?_;rintro e W8 ⟨rfl,qd,mB⟩;have j6:ak K W7 W8:=((((Ext.refl _).drew).trans xz).but K).trans mB;refine hK.out _ _ (⟨aR kb j6 bL,aR c5 j6 dR,aR c6 j6 dR⟩) (trivial) (fun ar ah=> ?_);clear hK Kc;try simp only [sS]
      refine ax (by kernel_rfl) ?_ _;clear ar ah mB xz;have qd:cY W8 K c (s6.need (bq x.iH x.kq&&decide (x.iH≤0)) 4 3):=by rw [hv];simpa using qd
      clear hv;go_wp2_with fail
      go_meet
      exact ⟨qd,j6,bt.out.but j6 dR,dg.out.but j6 bL⟩
     ·refine ay (fun w'=>w'.cell? ⟨B,0,none⟩=some (.pointer (some ⟨K,0,none⟩))∧w'.cell? ⟨E,5,none⟩=some (i64 x.iH)∧w'.cell? ⟨E,6,none⟩=some (i64 x.kq)) (fun w'=>True) (fun i=>false) (by kernel_rfl) (⟨kb,c5,c6⟩) (trivial) (fun ar ah=> ?_)
      refine av 0 (.pointer (some ⟨K,0,none⟩)) rfl ar ah ?_;simp only [sS];refine av 1 (.pointer (some ⟨E,5,none⟩)) rfl ar ah ?_;simp only [sS];refine av 2 (.agg #[i64 x.iH,i64 x.kq]) rfl ar ah ?_;simp only [sS];refine cG 3 rfl (fun Kc hK=> ?_);go_simp;refine (ir W7.drew x.iH x.kq).mono ?_;rintro e z1 ⟨rfl,xz⟩;rw [hv];refine hK.out _ _ (⟨ai xz kb,ai xz c5,ai xz c6⟩) (trivial) (fun ar ah=> ?_);clear hK Kc;try simp only [sS]
      refine av 4 (.bool false) rfl ar ah ?_;simp only [sS];refine cA 5 rfl ar ah ?_;simp only [sS];refine cA 6 rfl ar ah ?_;simp only [sS];refine cA 7 rfl ar ah ?_;simp only [sS];refine cA 8 rfl ar ah ?_;simp only [sS];refine av 9 (.bool false) rfl ar ah ?_;simp only [sS];refine cG 10 rfl (fun Kc hK=> ?_);go_simp;refine (bN z1 K c s6 (false) 4 3 (jF.ext (((Ext.refl _).drew).trans xz))).mono ?_;rintro e W8 ⟨rfl,qd,mB⟩;have j6:ak K W7 W8:=((((Ext.refl _).drew).trans xz).but K).trans mB;refine hK.out _ _ (⟨aR kb j6 bL,aR c5 j6 dR,aR c6 j6 dR⟩) (trivial) (fun ar ah=> ?_);clear hK Kc;try simp only [sS]
      refine ax (by kernel_rfl) ?_ _;clear ar ah mB xz;have qd:cY W8 K c (s6.need (bq x.iH x.kq&&decide (x.iH≤0)) 4 3):=by rw [hv];simpa using qd
      clear hv;go_wp2_with fail
      go_meet
      exact ⟨qd,j6,bt.out.but j6 dR,dg.out.but j6 bL⟩
    case rest=>
     obtain ⟨qd,j6,O7,hcB⟩:=hcut;generalize wc=W8 at*;clear O7 hcB;obtain ⟨s7,LD⟩: ∃s',s'=(s6.need (bq x.iH x.kq&&decide (x.iH≤0)) 4 3):=⟨_,rfl⟩;rw [←LD]at qd;have LF:=ae LD;clear LD;clear kb c0 c1 c2 c3 c4 c5 c6 c7 c8 c9 c10 c11;have bt:=ae (bt.out.but j6 dR);have dg:=ae (dg.out.but j6 bL)
     have FM:ak K V W8:=Dn.trans j6;have eP:Ext w0 W8:=j6.ext eP bB.out;clear j6 Dn jF;have kb:=dg.out.cl 0 (.pointer (some ⟨K,0,none⟩)) rfl;obtain ⟨c0,c1,c2,c3,c4,c5,c6,c7,c8,c9,c10,c11⟩:=aS.at bt.out;go_upto_region 11 with fail
     go_cut [] (fun wx=>cY wx K c ((s7.need (bq x.iO x.lg&&decide (0≤x.iO)) 5 3))∧ak K W8 wx∧aG wx E 78 x.cells∧aG wx B 141 [.pointer (some ⟨K,0,none⟩)])
     case first=>
      rcases Bool.eq_false_or_eq_true (bq x.iO x.lg)with hv|hv
      ·refine ay (fun w'=>w'.cell? ⟨B,0,none⟩=some (.pointer (some ⟨K,0,none⟩))∧w'.cell? ⟨E,7,none⟩=some (i64 x.iO)∧w'.cell? ⟨E,8,none⟩=some (i64 x.lg)) (fun w'=>True) (fun i=>false) (by kernel_rfl) (⟨kb,c7,c8⟩) (trivial) (fun ar ah=> ?_)
       refine av 0 (.pointer (some ⟨K,0,none⟩)) rfl ar ah ?_;simp only [sS];refine av 1 (.pointer (some ⟨E,7,none⟩)) rfl ar ah ?_;simp only [sS];refine av 2 (.agg #[i64 x.iO,i64 x.lg]) rfl ar ah ?_;simp only [sS];refine cG 3 rfl (fun Kc hK=> ?_);go_simp;refine (ir W8.drew x.iO x.lg).mono ?_;rintro e z1 ⟨rfl,xz⟩;rw [hv];refine hK.out _ _ (⟨ai xz kb,ai xz c7,ai xz c8⟩) (trivial) (fun ar ah=> ?_);clear hK Kc;try simp only [sS]
       refine av 4 (.bool true) rfl ar ah ?_;simp only [sS];refine av 5 (.pointer (some ⟨E,7,none⟩)) rfl ar ah ?_;simp only [sS];refine av 6 (.pointer (some ⟨E,7,none⟩)) rfl ar ah ?_;simp only [sS];refine av 7 (i64 x.iO) rfl ar ah ?_;simp only [sS];refine av 8 (.bool (decide (0≤x.iO))) rfl ar ah ?_;simp only [sS];refine av 9 (.bool (decide (0≤x.iO))) rfl ar ah ?_;simp only [sS];refine cG 10 rfl (fun Kc hK=> ?_);go_simp;refine (bN z1 K c s7 (decide (0≤x.iO)) 5 3 (qd.ext (((Ext.refl _).drew).trans xz))).mono ?_;rintro e W9 ⟨rfl,pW,mB⟩;have fF:ak K W8 W9:=((((Ext.refl _).drew).trans xz).but K).trans mB;refine hK.out _ _ (⟨aR kb fF bL,aR c7 fF dR,aR c8 fF dR⟩) (trivial) (fun ar ah=> ?_);clear hK Kc;try simp only [sS]
       refine ax (by kernel_rfl) ?_ _;clear ar ah mB xz;have pW:cY W9 K c (s7.need (bq x.iO x.lg&&decide (0≤x.iO)) 5 3):=by rw [hv];simpa using pW
       clear hv;go_wp2_with fail
       go_meet
       exact ⟨pW,fF,bt.out.but fF dR,dg.out.but fF bL⟩
      ·refine ay (fun w'=>w'.cell? ⟨B,0,none⟩=some (.pointer (some ⟨K,0,none⟩))∧w'.cell? ⟨E,7,none⟩=some (i64 x.iO)∧w'.cell? ⟨E,8,none⟩=some (i64 x.lg)) (fun w'=>True) (fun i=>false) (by kernel_rfl) (⟨kb,c7,c8⟩) (trivial) (fun ar ah=> ?_)
       refine av 0 (.pointer (some ⟨K,0,none⟩)) rfl ar ah ?_;simp only [sS];refine av 1 (.pointer (some ⟨E,7,none⟩)) rfl ar ah ?_;simp only [sS];refine av 2 (.agg #[i64 x.iO,i64 x.lg]) rfl ar ah ?_;simp only [sS];refine cG 3 rfl (fun Kc hK=> ?_);go_simp;refine (ir W8.drew x.iO x.lg).mono ?_;rintro e z1 ⟨rfl,xz⟩;rw [hv];refine hK.out _ _ (⟨ai xz kb,ai xz c7,ai xz c8⟩) (trivial) (fun ar ah=> ?_);clear hK Kc;try simp only [sS]
       refine av 4 (.bool false) rfl ar ah ?_;simp only [sS];refine cA 5 rfl ar ah ?_;simp only [sS];refine cA 6 rfl ar ah ?_;simp only [sS];refine cA 7 rfl ar ah ?_;simp only [sS];refine cA 8 rfl ar ah ?_;simp only [sS];refine av 9 (.bool false) rfl ar ah ?_;simp only [sS];refine cG 10 rfl (fun Kc hK=> ?_);go_simp;refine (bN z1 K c s7 (false) 5 3 (qd.ext (((Ext.refl _).drew).trans xz))).mono ?_;rintro e W9 ⟨rfl,pW,mB⟩;have fF:ak K W8 W9:=((((Ext.refl _).drew).trans xz).but K).trans mB;refine hK.out _ _ (⟨aR kb fF bL,aR c7 fF dR,aR c8 fF dR⟩) (trivial) (fun ar ah=> ?_);clear hK Kc;try simp only [sS]
       refine ax (by kernel_rfl) ?_ _;clear ar ah mB xz;have pW:cY W9 K c (s7.need (bq x.iO x.lg&&decide (0≤x.iO)) 5 3):=by rw [hv];simpa using pW
       clear hv;go_wp2_with fail
       go_meet
       exact ⟨pW,fF,bt.out.but fF dR,dg.out.but fF bL⟩
     case rest=>
      obtain ⟨pW,fF,O7,hcB⟩:=hcut;generalize wc=W9 at*;clear O7 hcB;obtain ⟨s8,LG⟩: ∃s',s'=(s7.need (bq x.iO x.lg&&decide (0≤x.iO)) 5 3):=⟨_,rfl⟩;rw [←LG]at pW;have LH:=ae LG;clear LG;clear kb c0 c1 c2 c3 c4 c5 c6 c7 c8 c9 c10 c11;have bt:=ae (bt.out.but fF dR);have dg:=ae (dg.out.but fF bL)
      have Ae:ak K V W9:=FM.trans fF;have eP:Ext w0 W9:=fF.ext eP bB.out;clear fF FM qd;have kb:=dg.out.cl 0 (.pointer (some ⟨K,0,none⟩)) rfl;obtain ⟨c0,c1,c2,c3,c4,c5,c6,c7,c8,c9,c10,c11⟩:=aS.at bt.out;go_wp2_with fail
      refine (bM W9 K c s8 6 x.cf 0 1048576 pW).mono ?_;rintro e jG ⟨rfl,vG,iD⟩;obtain ⟨s9,AE⟩: ∃s',s'=(s8.within 6 x.cf 0 1048576):=⟨_,rfl⟩;rw [←AE]at vG;have Jc:=ae AE;clear AE;clear kb c0 c1 c2 c3 c4 c5 c6 c7 c8 c9 c10 c11;have bt:=ae (bt.out.but iD dR);have dg:=ae (dg.out.but iD bL)
      have wH:ak K V jG:=Ae.trans iD;have eP:Ext w0 jG:=iD.ext eP bB.out;clear iD Ae pW;have kb:=dg.out.cl 0 (.pointer (some ⟨K,0,none⟩)) rfl;obtain ⟨c0,c1,c2,c3,c4,c5,c6,c7,c8,c9,c10,c11⟩:=aS.at bt.out;go_wp2_with fail
      refine (bM jG K c s9 7 x.gw x.cf 1048576 vG).mono ?_;rintro e EI ⟨rfl,LI,dO⟩;obtain ⟨KN,LJ⟩: ∃s',s'=(s9.within 7 x.gw x.cf 1048576):=⟨_,rfl⟩;rw [←LJ]at LI;have wI:=ae LJ;clear LJ;clear kb c0 c1 c2 c3 c4 c5 c6 c7 c8 c9 c10 c11;have bt:=ae (bt.out.but dO dR);have dg:=ae (dg.out.but dO bL)
      have O8:ak K V EI:=wH.trans dO;have eP:Ext w0 EI:=dO.ext eP bB.out;clear dO wH vG;have kb:=dg.out.cl 0 (.pointer (some ⟨K,0,none⟩)) rfl;obtain ⟨c0,c1,c2,c3,c4,c5,c6,c7,c8,c9,c10,c11⟩:=aS.at bt.out;go_wp2_with fail
      refine (Ff w0 EI K c KN 8 x.aa x.ac x.away bB.out eP nL.out.2.1 LI).mono ?_;rintro e LK ⟨rfl,O9,FN⟩;obtain ⟨Iz,yv⟩: ∃s',s'=(KN.away c 8 x.away):=⟨_,rfl⟩;rw [←yv]at O9;have FO:=ae yv;clear yv;clear kb c0 c1 c2 c3 c4 c5 c6 c7 c8 c9 c10 c11;have bt:=ae (bt.out.but FN dR);have dg:=ae (dg.out.but FN bL)
      have TN:ak K V LK:=O8.trans FN;have eP:Ext w0 LK:=FN.ext eP bB.out;clear FN O8 LI;go_wp2_with fail
      exact ⟨⟨i+1,by omega,by rw [pU.out];unfold St.mA;rw [←oX.out,←nX.out,←Ad.out,←Ck.out,←Fv.out,←Ja.out,←LF.out,←LH.out,←Jc.out,←wI.out,←FO.out];exact O9,TN,dg.out,by go_num⟩,by simp only [intOf];omega⟩
  ·obtain rfl:i=c.lines.length:=by omega
   go_wp2_with fail
   exact bodyPost_end (v:= .tuple #[]) (by simp [results,Tryz.results80,go_sem]) rfl ⟨rfl,hk,hx⟩
end Go.Proofs.YtkpngkdgphojlaaGreat
