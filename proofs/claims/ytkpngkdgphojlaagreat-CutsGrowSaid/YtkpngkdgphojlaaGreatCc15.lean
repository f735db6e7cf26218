/- Texts of the proof. -/
import Derived.Test.YtkpngkdgphojlaaGreatCc6
set_option linter.all false
namespace Go.Proofs.YtkpngkdgphojlaaGreat
open Go.RowKit
def St.kM (c:aq) (x:aF) (prev:List ByteArray) (i:Int) (s:St):St:=((((((((((((((((((((((((s.at 3 i).name x.name prev).cX c 1 x.cX).within 2 x.min 0 1048576).within 3 x.max x.min 1048576).segments x).within 5 x.cg 0 1048576).within 6 x.cj 0 1048576).within 7 x.a_ 0 1048576).within 8 x.aW x.min x.max).within 9 x.bf x.min x.max).within 10 x.bQ 0 24).within 11 x.bg 0 24).within 12 x.startTime 0 24).within 13 x.bA 0 1048576).within 14 x.bh 0 1048576).within 15 x.bj 0 24).within 16 x.az 0 1048576).within 17 x.aJ 0 1048576).away c 18 x.away).need ((x.state==0)||(x.state==1)||(x.state==2)) 19 12).need ((x.state !=1)||(x.startTime !=0)) 19 16).within 20 x.hours 1 48).need ((x.state !=1)||decide (x.hours≤x.startTime)) 20 3).within 21 x.output (if x.state=2 then x.min else 0) (if x.state=2 then x.max else 0)
def St.lA (c:aq) (s:St) (n:Nat):St:=(List.range n).foldl (fun s i=>match c.aj[i]? with|some x=>St.kM c x ((c.aj.take i).map aF.name) i s|none=>s) s
def St.aj (s:St) (c:aq):St:=St.lA c s c.aj.length
theorem St.xd (c:aq) (s:St) (i:Nat) (h:i<c.aj.length):St.lA c s (i+1)=St.kM c c.aj[i] ((c.aj.take i).map aF.name) i (St.lA c s i):=by
 unfold St.lA;rw [List.range_succ,List.foldl_append,List.foldl_cons,List.foldl_nil,List.getElem?_eq_getElem h]
set_option maxHeartbeats 2000000 in
set_option maxRecDepth 100000 in
theorem JC (w0 V:World) (K:Nat) (c:aq) (s:St) (hK:w0.heap.size≤K) (hV:Ext w0 V) (hc:aT w0 c) (hn:c.aj.length≤1000000) (h:cY V K c s):
 Calls Tryz.prog 81 #[.pointer (some ⟨K,0,none⟩)] V fun e' w'=>km V K c (s.aj c) e' w':=by
 have vB:=h.lt;have hr:=hc.aj;have hle:=hr.le;have di:=hr.cap
 rw [List.length_map]at hle;have hen: ∀args w,(callFunc 141 args).run Tryz.prog w= .ok (.enter 141 args) w:=enters_of Tryz.func141 (by kernel_rfl) rfl;have Dm:=ae hen;have HV:=ae hV;have dB:=ae hc;have HH:=ae h;have bB:=ae hK
 unfold St.aj;clear hr h hc hV hen hK;go_enter Tryz.func81,Tryz.ntmps81
 go_upto_region 1 with fail
 obtain ⟨W,hW,x0,Z0,A0⟩:=aB V 141 [.pointer (some ⟨K,0,none⟩)];rw [show V.alloc (.cells #[.pointer (some ⟨K,0,none⟩)] 141)=W from hW.symm];clear hW;obtain ⟨B,hB⟩: ∃B,B=V.heap.size:=⟨_,rfl⟩;rw [←hB]at A0⊢;have bL:B≠K:=by omega
 have kb:W.cell? ⟨B,0,none⟩=some (.pointer (some ⟨K,0,none⟩)):=(A0.cell 0).trans rfl;have tj:=HH.out.ext x0;obtain ⟨k0,k1,k2,k3,k4,k5,k6,k7⟩:=cF tj;have ju:=ae A0;have mz:=ae tj;have X0:=ae (x0.but K)
 have kr:=ae hB;clear A0 tj Z0 x0 hB HH;go_wp2_with fail
 clear kb k0 k1 k2 k3 k4 k5 k6 k7;go_loopw [10] (fun ii wr=> ∃i:Nat,i≤c.aj.length∧cY wr K c (St.lA c s i)∧ak K V wr∧aG wr B 141 [.pointer (some ⟨K,0,none⟩)]∧ii= .int .i64 i) (fun ii _=>c.aj.length-(intOf ii).toNat)
 case atStart=>exact ⟨0,Nat.zero_le _,mz.out,X0.out,ju.out,rfl⟩
 case round=>
  obtain ⟨i,hi,hk,hx,hA,rfl⟩:=hrel;clear ju mz X0;by_cases hlt:i<c.aj.length
  ·have hE:=hx.ext HV.out bB.out
   have pU:=ae (St.xd c s i hlt);obtain ⟨b,o,ha,eM⟩:=(dB.out.aj.ext hE).adds i (by simpa using hlt);rw [List.getElem_map]at eM;have aP:=dB.out.unit c.aj[i] (List.getElem_mem hlt);generalize St.lA c s i=s0 at*;obtain ⟨prev,iG⟩: ∃prev,prev=(c.aj.take i).map aF.name:=⟨_,rfl⟩;rw [←iG]at pU;have gW:prev.length=i:=by subst iG;simp;omega
   have iY: ∀j (hj:j<prev.length),∃h:j<c.aj.length,prev[j]=c.aj[j].name:=fun j hj=>⟨by omega,by subst iG;simp⟩;obtain ⟨x,eU⟩: ∃x,x=c.aj[i]:=⟨_,rfl⟩;rw [←eU]at eM aP pU;have nL:=ae aP;have xO:=ae iY;have sq:=ae gW
   have nW:=ae hk;have HX:=ae hx;have HE:=ae hE;have HA:=ae hA
   have kb:wr.cell? ⟨B,0,none⟩=some (.pointer (some ⟨K,0,none⟩)):=(hA.cell 0).trans rfl;have fM:(0:Int)≤(i:Int):=by omega
   have fH:(i:Int)<(c.aj.length:Int):=by omega
   clear aP iY gW iG eU hk hx hE hA;rw [ha];have HAD:Hid (∀j v,[.string x.name,i64 x.cX,i64 x.min,i64 x.max,.slice x.sa x.aI.length x.sc,i64 x.cg,i64 x.cj,i64 x.a_,i64 x.aW,i64 x.bf,i64 x.bQ,i64 x.bg,i64 x.startTime,i64 x.bA,i64 x.bh,i64 x.bj,i64 x.az,i64 x.aJ,.slice x.aa x.away.length x.ac,i64 x.state,i64 x.hours,i64 x.output][j]?=some v→wr.cell? (Addr.add ⟨b,o+i*22,none⟩ j)=some v):=eM;clear eM;go_upto_region 4 with(first|(refine aQ rfl 67 _ rfl ⟨b,o+i*22,none⟩ rfl [.string x.name,i64 x.cX,i64 x.min,i64 x.max,.slice x.sa x.aI.length x.sc,i64 x.cg,i64 x.cj,i64 x.a_,i64 x.aW,i64 x.bf,i64 x.bQ,i64 x.bg,i64 x.startTime,i64 x.bA,i64 x.bh,i64 x.bj,i64 x.az,i64 x.aJ,.slice x.aa x.away.length x.ac,i64 x.state,i64 x.hours,i64 x.output] _ HAD.out Tryz.underlying67 rfl (by kernel_rfl) ?_)|(refine bD rfl 67 _ _ rfl _ [.string x.name,i64 x.cX,i64 x.min,i64 x.max,.slice x.sa x.aI.length x.sc,i64 x.cg,i64 x.cj,i64 x.a_,i64 x.aW,i64 x.bf,i64 x.bQ,i64 x.bg,i64 x.startTime,i64 x.bA,i64 x.bh,i64 x.bj,i64 x.az,i64 x.aJ,.slice x.aa x.away.length x.ac,i64 x.state,i64 x.hours,i64 x.output] rfl rfl (by kernel_rfl) rfl rfl ?_))
   try simp only [Act.put]
   obtain ⟨W1,hW1,x1,Z1,A1⟩:=aB wr 67 x.cells;rw [show wr.alloc (.cells #[.string x.name,i64 x.cX,i64 x.min,i64 x.max,.slice x.sa x.aI.length x.sc,i64 x.cg,i64 x.cj,i64 x.a_,i64 x.aW,i64 x.bf,i64 x.bQ,i64 x.bg,i64 x.startTime,i64 x.bA,i64 x.bh,i64 x.bj,i64 x.az,i64 x.aJ,.slice x.aa x.away.length x.ac,i64 x.state,i64 x.hours,i64 x.output] 67)=W1 from hW1.symm];clear hW1 HAD;obtain ⟨E,j5⟩: ∃E,E=wr.heap.size:=⟨_,rfl⟩;rw [←j5]at A1⊢;have dR:E≠K:=by have:=nW.out.lt;omega
   have sx:=nW.out.ext x1;have bt:=ae A1;have dg:=ae (HA.out.ext x1);have nM:ak K V W1:=HX.out.trans (x1.but K);have eP:Ext w0 W1:=HE.out.trans x1;clear j5 A1 Z1 x1 nW HA kb;have HK:=ae sx;have bV:=ae nM;have bw:=ae eP;have HB:=dg
   have TV:=ae nL.out.2.2.1;have LL:=ae nL.out.2.2.2.1;have JD:=ae nL.out.2.1
   clear sx nM eP dg;obtain ⟨s1,hs⟩: ∃s',s'=(s0.at 3 i):=⟨_,rfl⟩;have oX:=ae hs;clear hs;go_upto_region 4 with fail
   go_cut [] (fun wx=>cY wx K c s1∧ak K W1 wx∧aG wx E 67 x.cells∧aG wx B 141 [.pointer (some ⟨K,0,none⟩)])
   case first=>
    as_aux_lemma=>
     have kb:=HB.out.cl 0 (.pointer (some ⟨K,0,none⟩)) rfl;go_wp2_with fail
     refine (wz W1 K c _ 3 i HK.out).mono ?_;rintro e w2 ⟨rfl,hk,hx⟩;have ee:cY w2 K c s1:=by(rw [oX.out];exact hk)
     have HR:=ae (And.intro ee (And.intro hx (And.intro (bt.out.but hx dR) (HB.out.but hx bL))));clear hk ee hx kb;go_wp2_with fail
     go_meet
     exact HR.out
   case rest=>
    obtain ⟨hk,hx,hA',aM⟩:=hcut;generalize wc=V1 at*;have HK:=ae hk;have bt:=ae hA';have HB:=ae aM
    have bV:=ae (bV.out.trans hx);have bw:=ae (hx.ext bw.out bB.out)
    clear hk hx hA' aM;obtain ⟨s2,hs⟩: ∃s',s'=(s1.name x.name prev):=⟨_,rfl⟩;have nX:=ae hs;clear hs;go_upto_region 5 with fail
    go_cut [] (fun wx=>cY wx K c s2∧ak K V1 wx∧aG wx E 67 x.cells∧aG wx B 141 [.pointer (some ⟨K,0,none⟩)])
    case first=>
     as_aux_lemma=>
      have kb:=HB.out.cl 0 (.pointer (some ⟨K,0,none⟩)) rfl;have c0:=bt.out.cl 0 (.string x.name) rfl
      have jW:s1.err=0→s1.idx=(prev.length:Int):=fun h0=>by
       rw [sq.out];rw [oX.out]at h0⊢;unfold St.at at h0⊢;split
       ·rfl
       ·rename_i hne;rw [if_neg hne]at h0;exact absurd h0 hne
      have HN:=ae (p9 V1 K c s1 x.name nL.out.1 prev 141 B jW (by rw [sq.out];omega) Dm.out (fun V' s' j hj lL FL=>by
       obtain ⟨hj',ej⟩:=xO.out j hj;rw [ej];exact Fm w0 V' K B c s' j bB.out (lL.ext bw.out bB.out) dB.out FL (aR ((HB.out.cell 0).trans rfl) lL bL) hj') HK.out)
      clear jW;go_wp2_with fail
      refine HN.out.mono ?_;rintro e w2 ⟨rfl,hk,hx⟩;have ee:cY w2 K c s2:=by(rw [nX.out];exact hk)
      have HR:=ae (And.intro ee (And.intro hx (And.intro (bt.out.but hx dR) (HB.out.but hx bL))));clear hk ee hx kb c0;go_wp2_with fail
      go_meet
      exact HR.out
    case rest=>
     obtain ⟨hk,hx,hA',aM⟩:=hcut;generalize wc=V2 at*;have HK:=ae hk;have bt:=ae hA';have HB:=ae aM
     have bV:=ae (bV.out.trans hx);have bw:=ae (hx.ext bw.out bB.out)
     clear hk hx hA' aM;obtain ⟨s3,hs⟩: ∃s',s'=(s2.cX c 1 x.cX):=⟨_,rfl⟩;have Ad:=ae hs;clear hs;go_upto_region 6 with fail
     go_cut [] (fun wx=>cY wx K c s3∧ak K V2 wx∧aG wx E 67 x.cells∧aG wx B 141 [.pointer (some ⟨K,0,none⟩)])
     case first=>
      as_aux_lemma=>
       have kb:=HB.out.cl 0 (.pointer (some ⟨K,0,none⟩)) rfl;have c1:=bt.out.cl 1 (i64 x.cX) rfl;go_wp2_with fail
       refine (yj V2 K c _ 1 x.cX HK.out).mono ?_;rintro e w2 ⟨rfl,hk,hx⟩;have ee:cY w2 K c s3:=by(rw [Ad.out];exact hk)
       have HR:=ae (And.intro ee (And.intro hx (And.intro (bt.out.but hx dR) (HB.out.but hx bL))));clear hk ee hx kb c1;go_wp2_with fail
       go_meet
       exact HR.out
     case rest=>
      obtain ⟨hk,hx,hA',aM⟩:=hcut;generalize wc=V3 at*;have HK:=ae hk;have bt:=ae hA';have HB:=ae aM
      have bV:=ae (bV.out.trans hx);have bw:=ae (hx.ext bw.out bB.out)
      clear hk hx hA' aM;obtain ⟨s4,hs⟩: ∃s',s'=(s3.within 2 x.min 0 1048576):=⟨_,rfl⟩;have Ck:=ae hs;clear hs;go_upto_region 7 with fail
      go_cut [] (fun wx=>cY wx K c s4∧ak K V3 wx∧aG wx E 67 x.cells∧aG wx B 141 [.pointer (some ⟨K,0,none⟩)])
      case first=>
       as_aux_lemma=>
        have kb:=HB.out.cl 0 (.pointer (some ⟨K,0,none⟩)) rfl;have c2:=bt.out.cl 2 (i64 x.min) rfl;go_wp2_with fail
        refine (bM V3 K c _ 2 x.min 0 1048576 HK.out).mono ?_;rintro e w2 ⟨rfl,hk,hx⟩;have ee:cY w2 K c s4:=by(rw [Ck.out];exact hk)
        have HR:=ae (And.intro ee (And.intro hx (And.intro (bt.out.but hx dR) (HB.out.but hx bL))));clear hk ee hx kb c2;go_wp2_with fail
        go_meet
        exact HR.out
      case rest=>
       obtain ⟨hk,hx,hA',aM⟩:=hcut;generalize wc=V4 at*;have HK:=ae hk;have bt:=ae hA';have HB:=ae aM
       have bV:=ae (bV.out.trans hx);have bw:=ae (hx.ext bw.out bB.out)
       clear hk hx hA' aM
       as_aux_lemma=>
        obtain ⟨s5,hs⟩: ∃s',s'=(s4.within 3 x.max x.min 1048576):=⟨_,rfl⟩;have Fv:=ae hs;clear hs;go_upto_region 8 with fail
        go_cut [] (fun wx=>cY wx K c s5∧ak K V4 wx∧aG wx E 67 x.cells∧aG wx B 141 [.pointer (some ⟨K,0,none⟩)])
        case first=>
             as_aux_lemma=>
              have kb:=HB.out.cl 0 (.pointer (some ⟨K,0,none⟩)) rfl;have c2:=bt.out.cl 2 (i64 x.min) rfl;have c3:=bt.out.cl 3 (i64 x.max) rfl;go_wp2_with fail
              refine (bM V4 K c _ 3 x.max x.min 1048576 HK.out).mono ?_;rintro e w2 ⟨rfl,hk,hx⟩;have ee:cY w2 K c s5:=by(rw [Fv.out];exact hk)
              have HR:=ae (And.intro ee (And.intro hx (And.intro (bt.out.but hx dR) (HB.out.but hx bL))));clear hk ee hx kb c2 c3;go_wp2_with fail
              go_meet
              exact HR.out
        case rest=>
             obtain ⟨hk,hx,hA',aM⟩:=hcut;generalize wc=V5 at*;have HK:=ae hk;have bt:=ae hA';have HB:=ae aM
             have bV:=ae (bV.out.trans hx);have bw:=ae (hx.ext bw.out bB.out)
             clear hk hx hA' aM;obtain ⟨s6,hs⟩: ∃s',s'=(s5.segments x):=⟨_,rfl⟩;have Ja:=ae hs;clear hs;go_upto_region 9 with fail
             go_cut [] (fun wx=>cY wx K c s6∧ak K V5 wx∧aG wx E 67 x.cells∧aG wx B 141 [.pointer (some ⟨K,0,none⟩)])
             case first=>
              as_aux_lemma=>
               have kb:=HB.out.cl 0 (.pointer (some ⟨K,0,none⟩)) rfl;go_wp2_with (refine aQ rfl 67 _ rfl ⟨E,0,none⟩ rfl [.string x.name,i64 x.cX,i64 x.min,i64 x.max,.slice x.sa x.aI.length x.sc,i64 x.cg,i64 x.cj,i64 x.a_,i64 x.aW,i64 x.bf,i64 x.bQ,i64 x.bg,i64 x.startTime,i64 x.bA,i64 x.bh,i64 x.bj,i64 x.az,i64 x.aJ,.slice x.aa x.away.length x.ac,i64 x.state,i64 x.hours,i64 x.output] _ bt.out.adds Tryz.underlying67 rfl (by kernel_rfl) ?_)
               refine (AK w0 V5 K c _ x bB.out bw.out TV.out LL.out HK.out).mono ?_;rintro e w2 ⟨rfl,hk,hx⟩;have ee:cY w2 K c s6:=by(rw [Ja.out];exact hk)
               have HR:=ae (And.intro ee (And.intro hx (And.intro (bt.out.but hx dR) (HB.out.but hx bL))));clear hk ee hx kb;go_wp2_with fail
               go_meet
               exact HR.out
             case rest=>
              obtain ⟨hk,hx,hA',aM⟩:=hcut;generalize wc=V6 at*;have HK:=ae hk;have bt:=ae hA';have HB:=ae aM
              have bV:=ae (bV.out.trans hx);have bw:=ae (hx.ext bw.out bB.out)
              clear hk hx hA' aM;obtain ⟨s7,hs⟩: ∃s',s'=(s6.within 5 x.cg 0 1048576):=⟨_,rfl⟩;have LF:=ae hs;clear hs;go_upto_region 10 with fail
              go_cut [] (fun wx=>cY wx K c s7∧ak K V6 wx∧aG wx E 67 x.cells∧aG wx B 141 [.pointer (some ⟨K,0,none⟩)])
              case first=>
               as_aux_lemma=>
                have kb:=HB.out.cl 0 (.pointer (some ⟨K,0,none⟩)) rfl;have c5:=bt.out.cl 5 (i64 x.cg) rfl;go_wp2_with fail
                refine (bM V6 K c _ 5 x.cg 0 1048576 HK.out).mono ?_;rintro e w2 ⟨rfl,hk,hx⟩;have ee:cY w2 K c s7:=by(rw [LF.out];exact hk)
                have HR:=ae (And.intro ee (And.intro hx (And.intro (bt.out.but hx dR) (HB.out.but hx bL))));clear hk ee hx kb c5;go_wp2_with fail
                go_meet
                exact HR.out
              case rest=>
               obtain ⟨hk,hx,hA',aM⟩:=hcut;generalize wc=V7 at*;have HK:=ae hk;have bt:=ae hA';have HB:=ae aM
               have bV:=ae (bV.out.trans hx);have bw:=ae (hx.ext bw.out bB.out)
               clear hk hx hA' aM;obtain ⟨s8,hs⟩: ∃s',s'=(s7.within 6 x.cj 0 1048576):=⟨_,rfl⟩;have LH:=ae hs;clear hs;go_upto_region 11 with fail
               go_cut [] (fun wx=>cY wx K c s8∧ak K V7 wx∧aG wx E 67 x.cells∧aG wx B 141 [.pointer (some ⟨K,0,none⟩)])
               case first=>
                as_aux_lemma=>
                 have kb:=HB.out.cl 0 (.pointer (some ⟨K,0,none⟩)) rfl;have c6:=bt.out.cl 6 (i64 x.cj) rfl;go_wp2_with fail
                 refine (bM V7 K c _ 6 x.cj 0 1048576 HK.out).mono ?_;rintro e w2 ⟨rfl,hk,hx⟩;have ee:cY w2 K c s8:=by(rw [LH.out];exact hk)
                 have HR:=ae (And.intro ee (And.intro hx (And.intro (bt.out.but hx dR) (HB.out.but hx bL))));clear hk ee hx kb c6;go_wp2_with fail
                 go_meet
                 exact HR.out
               case rest=>
                obtain ⟨hk,hx,hA',aM⟩:=hcut;generalize wc=V8 at*;have HK:=ae hk;have bt:=ae hA';have HB:=ae aM
                have bV:=ae (bV.out.trans hx);have bw:=ae (hx.ext bw.out bB.out)
                clear hk hx hA' aM
                as_aux_lemma=>
                 obtain ⟨s9,hs⟩: ∃s',s'=(s8.within 7 x.a_ 0 1048576):=⟨_,rfl⟩;have Jc:=ae hs;clear hs;go_upto_region 12 with fail
                 go_cut [] (fun wx=>cY wx K c s9∧ak K V8 wx∧aG wx E 67 x.cells∧aG wx B 141 [.pointer (some ⟨K,0,none⟩)])
                 case first=>
                  as_aux_lemma=>
                   have kb:=HB.out.cl 0 (.pointer (some ⟨K,0,none⟩)) rfl;have c7:=bt.out.cl 7 (i64 x.a_) rfl;go_wp2_with fail
                   refine (bM V8 K c _ 7 x.a_ 0 1048576 HK.out).mono ?_;rintro e w2 ⟨rfl,hk,hx⟩;have ee:cY w2 K c s9:=by(rw [Jc.out];exact hk)
                   have HR:=ae (And.intro ee (And.intro hx (And.intro (bt.out.but hx dR) (HB.out.but hx bL))));clear hk ee hx kb c7;go_wp2_with fail
                   go_meet
                   exact HR.out
                 case rest=>
                  obtain ⟨hk,hx,hA',aM⟩:=hcut;generalize wc=V9 at*;have HK:=ae hk;have bt:=ae hA';have HB:=ae aM
                  have bV:=ae (bV.out.trans hx);have bw:=ae (hx.ext bw.out bB.out)
                  clear hk hx hA' aM;obtain ⟨KN,hs⟩: ∃s',s'=(s9.within 8 x.aW x.min x.max):=⟨_,rfl⟩;have wI:=ae hs;clear hs;go_upto_region 13 with fail
                  go_cut [] (fun wx=>cY wx K c KN∧ak K V9 wx∧aG wx E 67 x.cells∧aG wx B 141 [.pointer (some ⟨K,0,none⟩)])
                  case first=>
                   as_aux_lemma=>
                         have kb:=HB.out.cl 0 (.pointer (some ⟨K,0,none⟩)) rfl;have c2:=bt.out.cl 2 (i64 x.min) rfl;have c3:=bt.out.cl 3 (i64 x.max) rfl;have c8:=bt.out.cl 8 (i64 x.aW) rfl;go_wp2_with fail
                         refine (bM V9 K c _ 8 x.aW x.min x.max HK.out).mono ?_;rintro e w2 ⟨rfl,hk,hx⟩;have ee:cY w2 K c KN:=by(rw [wI.out];exact hk)
                         have HR:=ae (And.intro ee (And.intro hx (And.intro (bt.out.but hx dR) (HB.out.but hx bL))));clear hk ee hx kb c2 c3 c8;go_wp2_with fail
                         go_meet
                         exact HR.out
                  case rest=>
                   obtain ⟨hk,hx,hA',aM⟩:=hcut;generalize wc=LP at*;have HK:=ae hk;have bt:=ae hA';have HB:=ae aM
                   have bV:=ae (bV.out.trans hx);have bw:=ae (hx.ext bw.out bB.out)
                   clear hk hx hA' aM;obtain ⟨Iz,hs⟩: ∃s',s'=(KN.within 9 x.bf x.min x.max):=⟨_,rfl⟩;have FO:=ae hs;clear hs;go_upto_region 14 with fail
                   go_cut [] (fun wx=>cY wx K c Iz∧ak K LP wx∧aG wx E 67 x.cells∧aG wx B 141 [.pointer (some ⟨K,0,none⟩)])
                   case first=>
                         as_aux_lemma=>
                          have kb:=HB.out.cl 0 (.pointer (some ⟨K,0,none⟩)) rfl;have c2:=bt.out.cl 2 (i64 x.min) rfl;have c3:=bt.out.cl 3 (i64 x.max) rfl;have c9:=bt.out.cl 9 (i64 x.bf) rfl;go_wp2_with fail
                          refine (bM LP K c _ 9 x.bf x.min x.max HK.out).mono ?_;rintro e w2 ⟨rfl,hk,hx⟩;have ee:cY w2 K c Iz:=by(rw [FO.out];exact hk)
                          have HR:=ae (And.intro ee (And.intro hx (And.intro (bt.out.but hx dR) (HB.out.but hx bL))));clear hk ee hx kb c2 c3 c9;go_wp2_with fail
                          go_meet
                          exact HR.out
                   case rest=>
                         obtain ⟨hk,hx,hA',aM⟩:=hcut;generalize wc=LR at*;have HK:=ae hk;have bt:=ae hA';have HB:=ae aM
                         have bV:=ae (bV.out.trans hx);have bw:=ae (hx.ext bw.out bB.out)
                         clear hk hx hA' aM;obtain ⟨s12,hs⟩: ∃s',s'=(Iz.within 10 x.bQ 0 24):=⟨_,rfl⟩;have MB:=ae hs;clear hs;go_upto_region 15 with fail
                         go_cut [] (fun wx=>cY wx K c s12∧ak K LR wx∧aG wx E 67 x.cells∧aG wx B 141 [.pointer (some ⟨K,0,none⟩)])
                         case first=>
                          as_aux_lemma=>
                           have kb:=HB.out.cl 0 (.pointer (some ⟨K,0,none⟩)) rfl;have c10:=bt.out.cl 10 (i64 x.bQ) rfl;go_wp2_with fail
                           refine (bM LR K c _ 10 x.bQ 0 24 HK.out).mono ?_;rintro e w2 ⟨rfl,hk,hx⟩;have ee:cY w2 K c s12:=by(rw [MB.out];exact hk)
                           have HR:=ae (And.intro ee (And.intro hx (And.intro (bt.out.but hx dR) (HB.out.but hx bL))));clear hk ee hx kb c10;go_wp2_with fail
                           go_meet
                           exact HR.out
                         case rest=>
                          obtain ⟨hk,hx,hA',aM⟩:=hcut;generalize wc=LU at*;have HK:=ae hk;have bt:=ae hA';have HB:=ae aM
                          have bV:=ae (bV.out.trans hx);have bw:=ae (hx.ext bw.out bB.out)
                          clear hk hx hA' aM
                          as_aux_lemma=>
                           obtain ⟨UE,hs⟩: ∃s',s'=(s12.within 11 x.bg 0 24):=⟨_,rfl⟩;have MC:=ae hs;clear hs;go_upto_region 16 with fail
                           go_cut [] (fun wx=>cY wx K c UE∧ak K LU wx∧aG wx E 67 x.cells∧aG wx B 141 [.pointer (some ⟨K,0,none⟩)])
                           case first=>
                            as_aux_lemma=>
                             have kb:=HB.out.cl 0 (.pointer (some ⟨K,0,none⟩)) rfl;have c11:=bt.out.cl 11 (i64 x.bg) rfl;go_wp2_with fail
                             refine (bM LU K c _ 11 x.bg 0 24 HK.out).mono ?_;rintro e w2 ⟨rfl,hk,hx⟩;have ee:cY w2 K c UE:=by(rw [MC.out];exact hk)
                             have HR:=ae (And.intro ee (And.intro hx (And.intro (bt.out.but hx dR) (HB.out.but hx bL))));clear hk ee hx kb c11;go_wp2_with fail
                             go_meet
                             exact HR.out
                           case rest=>
                            obtain ⟨hk,hx,hA',aM⟩:=hcut;generalize wc=LW at*;have HK:=ae hk;have bt:=ae hA';have HB:=ae aM
                            have bV:=ae (bV.out.trans hx);have bw:=ae (hx.ext bw.out bB.out)
                            clear hk hx hA' aM;obtain ⟨UF,hs⟩: ∃s',s'=(UE.within 12 x.startTime 0 24):=⟨_,rfl⟩;have MD:=ae hs;clear hs;go_upto_region 17 with fail
                            go_cut [] (fun wx=>cY wx K c UF∧ak K LW wx∧aG wx E 67 x.cells∧aG wx B 141 [.pointer (some ⟨K,0,none⟩)])
                            case first=>
                             as_aux_lemma=>
                                 have kb:=HB.out.cl 0 (.pointer (some ⟨K,0,none⟩)) rfl;have c12:=bt.out.cl 12 (i64 x.startTime) rfl;go_wp2_with fail
                                 refine (bM LW K c _ 12 x.startTime 0 24 HK.out).mono ?_;rintro e w2 ⟨rfl,hk,hx⟩;have ee:cY w2 K c UF:=by(rw [MD.out];exact hk)
                                 have HR:=ae (And.intro ee (And.intro hx (And.intro (bt.out.but hx dR) (HB.out.but hx bL))));clear hk ee hx kb c12;go_wp2_with fail
                                 go_meet
                                 exact HR.out
                            case rest=>
                             obtain ⟨hk,hx,hA',aM⟩:=hcut;generalize wc=LY at*;have HK:=ae hk;have bt:=ae hA';have HB:=ae aM
                             have bV:=ae (bV.out.trans hx);have bw:=ae (hx.ext bw.out bB.out)
                             clear hk hx hA' aM;obtain ⟨UG,hs⟩: ∃s',s'=(UF.within 13 x.bA 0 1048576):=⟨_,rfl⟩;have ME:=ae hs;clear hs;go_upto_region 18 with fail
                             go_cut [] (fun wx=>cY wx K c UG∧ak K LY wx∧aG wx E 67 x.cells∧aG wx B 141 [.pointer (some ⟨K,0,none⟩)])
                             case first=>
                                 as_aux_lemma=>
                                  have kb:=HB.out.cl 0 (.pointer (some ⟨K,0,none⟩)) rfl;have c13:=bt.out.cl 13 (i64 x.bA) rfl;go_wp2_with fail
                                  refine (bM LY K c _ 13 x.bA 0 1048576 HK.out).mono ?_;rintro e w2 ⟨rfl,hk,hx⟩;have ee:cY w2 K c UG:=by(rw [ME.out];exact hk)
                                  have HR:=ae (And.intro ee (And.intro hx (And.intro (bt.out.but hx dR) (HB.out.but hx bL))));clear hk ee hx kb c13;go_wp2_with fail
                                  go_meet
                                  exact HR.out
                             case rest=>
                                 obtain ⟨hk,hx,hA',aM⟩:=hcut;generalize wc=L0 at*;have HK:=ae hk;have bt:=ae hA';have HB:=ae aM
                                 have bV:=ae (bV.out.trans hx);have bw:=ae (hx.ext bw.out bB.out)
                                 clear hk hx hA' aM;obtain ⟨UH,hs⟩: ∃s',s'=(UG.within 14 x.bh 0 1048576):=⟨_,rfl⟩;have MF:=ae hs;clear hs;go_upto_region 19 with fail
                                 go_cut [] (fun wx=>cY wx K c UH∧ak K L0 wx∧aG wx E 67 x.cells∧aG wx B 141 [.pointer (some ⟨K,0,none⟩)])
                                 case first=>
                                  as_aux_lemma=>
                                   have kb:=HB.out.cl 0 (.pointer (some ⟨K,0,none⟩)) rfl;have c14:=bt.out.cl 14 (i64 x.bh) rfl;go_wp2_with fail
                                   refine (bM L0 K c _ 14 x.bh 0 1048576 HK.out).mono ?_;rintro e w2 ⟨rfl,hk,hx⟩;have ee:cY w2 K c UH:=by(rw [MF.out];exact hk)
                                   have HR:=ae (And.intro ee (And.intro hx (And.intro (bt.out.but hx dR) (HB.out.but hx bL))));clear hk ee hx kb c14;go_wp2_with fail
                                   go_meet
                                   exact HR.out
                                 case rest=>
                                  obtain ⟨hk,hx,hA',aM⟩:=hcut;generalize wc=L3 at*;have HK:=ae hk;have bt:=ae hA';have HB:=ae aM
                                  have bV:=ae (bV.out.trans hx);have bw:=ae (hx.ext bw.out bB.out)
                                  clear hk hx hA' aM
                                  as_aux_lemma=>
                                   obtain ⟨UI,hs⟩: ∃s',s'=(UH.within 15 x.bj 0 24):=⟨_,rfl⟩;have MG:=ae hs;clear hs;go_upto_region 20 with fail
                                   go_cut [] (fun wx=>cY wx K c UI∧ak K L3 wx∧aG wx E 67 x.cells∧aG wx B 141 [.pointer (some ⟨K,0,none⟩)])
                                   case first=>
                                    as_aux_lemma=>
                                     have kb:=HB.out.cl 0 (.pointer (some ⟨K,0,none⟩)) rfl;have c15:=bt.out.cl 15 (i64 x.bj) rfl;go_wp2_with fail
                                     refine (bM L3 K c _ 15 x.bj 0 24 HK.out).mono ?_;rintro e w2 ⟨rfl,hk,hx⟩;have ee:cY w2 K c UI:=by(rw [MG.out];exact hk)
                                     have HR:=ae (And.intro ee (And.intro hx (And.intro (bt.out.but hx dR) (HB.out.but hx bL))));clear hk ee hx kb c15;go_wp2_with fail
                                     go_meet
                                     exact HR.out
                                   case rest=>
                                    obtain ⟨hk,hx,hA',aM⟩:=hcut;generalize wc=L5 at*;have HK:=ae hk;have bt:=ae hA';have HB:=ae aM
                                    have bV:=ae (bV.out.trans hx);have bw:=ae (hx.ext bw.out bB.out)
                                    clear hk hx hA' aM;obtain ⟨UJ,hs⟩: ∃s',s'=(UI.within 16 x.az 0 1048576):=⟨_,rfl⟩;have MH:=ae hs;clear hs;go_upto_region 21 with fail
                                    go_cut [] (fun wx=>cY wx K c UJ∧ak K L5 wx∧aG wx E 67 x.cells∧aG wx B 141 [.pointer (some ⟨K,0,none⟩)])
                                    case first=>
                                     as_aux_lemma=>
                                      have kb:=HB.out.cl 0 (.pointer (some ⟨K,0,none⟩)) rfl;have c16:=bt.out.cl 16 (i64 x.az) rfl;go_wp2_with fail
                                      refine (bM L5 K c _ 16 x.az 0 1048576 HK.out).mono ?_;rintro e w2 ⟨rfl,hk,hx⟩;have ee:cY w2 K c UJ:=by(rw [MH.out];exact hk)
                                      have HR:=ae (And.intro ee (And.intro hx (And.intro (bt.out.but hx dR) (HB.out.but hx bL))));clear hk ee hx kb c16;go_wp2_with fail
                                      go_meet
                                      exact HR.out
                                    case rest=>
                                     obtain ⟨hk,hx,hA',aM⟩:=hcut;generalize wc=N3 at*;have HK:=ae hk;have bt:=ae hA';have HB:=ae aM
                                     have bV:=ae (bV.out.trans hx);have bw:=ae (hx.ext bw.out bB.out)
                                     clear hk hx hA' aM;obtain ⟨UK,hs⟩: ∃s',s'=(UJ.within 17 x.aJ 0 1048576):=⟨_,rfl⟩;have MI:=ae hs;clear hs;go_upto_region 22 with fail
                                     go_cut [] (fun wx=>cY wx K c UK∧ak K N3 wx∧aG wx E 67 x.cells∧aG wx B 141 [.pointer (some ⟨K,0,none⟩)])
                                     case first=>
                                      as_aux_lemma=>
                                        have kb:=HB.out.cl 0 (.pointer (some ⟨K,0,none⟩)) rfl;have c17:=bt.out.cl 17 (i64 x.aJ) rfl;go_wp2_with fail
                                        refine (bM N3 K c _ 17 x.aJ 0 1048576 HK.out).mono ?_;rintro e w2 ⟨rfl,hk,hx⟩;have ee:cY w2 K c UK:=by(rw [MI.out];exact hk)
                                        have HR:=ae (And.intro ee (And.intro hx (And.intro (bt.out.but hx dR) (HB.out.but hx bL))));clear hk ee hx kb c17;go_wp2_with fail
                                        go_meet
                                        exact HR.out
                                     case rest=>
                                      obtain ⟨hk,hx,hA',aM⟩:=hcut;generalize wc=L9 at*;have HK:=ae hk;have bt:=ae hA';have HB:=ae aM
                                      have bV:=ae (bV.out.trans hx);have bw:=ae (hx.ext bw.out bB.out)
                                      clear hk hx hA' aM;obtain ⟨UL,hs⟩: ∃s',s'=(UK.away c 18 x.away):=⟨_,rfl⟩;have MJ:=ae hs;clear hs;go_upto_region 23 with fail
                                      go_cut [] (fun wx=>cY wx K c UL∧ak K L9 wx∧aG wx E 67 x.cells∧aG wx B 141 [.pointer (some ⟨K,0,none⟩)])
                                      case first=>
                                        as_aux_lemma=>
                                         have kb:=HB.out.cl 0 (.pointer (some ⟨K,0,none⟩)) rfl;have c18:=bt.out.cl 18 (.slice x.aa x.away.length x.ac) rfl;go_wp2_with fail
                                         refine (Ff w0 L9 K c _ 18 x.aa x.ac x.away bB.out bw.out JD.out HK.out).mono ?_;rintro e w2 ⟨rfl,hk,hx⟩;have ee:cY w2 K c UL:=by(rw [MJ.out];exact hk)
                                         have HR:=ae (And.intro ee (And.intro hx (And.intro (bt.out.but hx dR) (HB.out.but hx bL))));clear hk ee hx kb c18;go_wp2_with fail
                                         go_meet
                                         exact HR.out
                                      case rest=>
                                        obtain ⟨hk,hx,hA',aM⟩:=hcut;generalize wc=Jg at*;have HK:=ae hk;have bt:=ae hA';have HB:=ae aM
                                        have bV:=ae (bV.out.trans hx);have bw:=ae (hx.ext bw.out bB.out)
                                        clear hk hx hA' aM
                                        as_aux_lemma=>
                                         obtain ⟨Om,hs⟩: ∃s',s'=(UL.need ((x.state==0)||(x.state==1)||(x.state==2)) 19 12):=⟨_,rfl⟩;have DU:=ae hs;clear hs;go_upto_region 24 with fail
                                         go_cut [] (fun wx=>cY wx K c Om∧ak K Jg wx∧aG wx E 67 x.cells∧aG wx B 141 [.pointer (some ⟨K,0,none⟩)])
                                         case first=>
                                          as_aux_lemma=>
                                           have kb:=HB.out.cl 0 (.pointer (some ⟨K,0,none⟩)) rfl;have c19:=bt.out.cl 19 (i64 x.state) rfl;rcases (show x.state=0∨x.state=1∨x.state=2∨(x.state≠0∧x.state≠1∧x.state≠2) by omega)with e|e|e|⟨e,e',e''⟩
                                           ·have q0:(x.state==0)=true:=by rw [e];rfl
                                            have q1:(x.state==1)=false:=by rw [e];rfl
                                            have q2:(x.state==2)=false:=by rw [e];rfl
                                            have MK:=ae (And.intro q0 (And.intro q1 q2));clear e;go_wp2_with fail
                                            refine (bN Jg K c _ _ 19 12 HK.out).mono ?_;rintro e w2 ⟨rfl,hk,hx⟩;have ee:cY w2 K c Om:=by(rw [DU.out];(obtain ⟨q0,q1,q2⟩:=MK.out;rw [q0,q1,q2];simpa using hk))
                                            have HR:=ae (And.intro ee (And.intro hx (And.intro (bt.out.but hx dR) (HB.out.but hx bL))));clear hk ee hx kb c19;go_wp2_with fail
                                            go_meet
                                            exact HR.out
                                           ·have q0:(x.state==0)=false:=by rw [e];rfl
                                            have q1:(x.state==1)=true:=by rw [e];rfl
                                            have q2:(x.state==2)=false:=by rw [e];rfl
                                            have MK:=ae (And.intro q0 (And.intro q1 q2));clear e;go_wp2_with fail
                                            refine (bN Jg K c _ _ 19 12 HK.out).mono ?_;rintro e w2 ⟨rfl,hk,hx⟩;have ee:cY w2 K c Om:=by(rw [DU.out];(obtain ⟨q0,q1,q2⟩:=MK.out;rw [q0,q1,q2];simpa using hk))
                                            have HR:=ae (And.intro ee (And.intro hx (And.intro (bt.out.but hx dR) (HB.out.but hx bL))));clear hk ee hx kb c19;go_wp2_with fail
                                            go_meet
                                            exact HR.out
                                           ·have q0:(x.state==0)=false:=by rw [e];rfl
                                            have q1:(x.state==1)=false:=by rw [e];rfl
                                            have q2:(x.state==2)=true:=by rw [e];rfl
                                            have MK:=ae (And.intro q0 (And.intro q1 q2));clear e;go_wp2_with fail
                                            refine (bN Jg K c _ _ 19 12 HK.out).mono ?_;rintro e w2 ⟨rfl,hk,hx⟩;have ee:cY w2 K c Om:=by(rw [DU.out];(obtain ⟨q0,q1,q2⟩:=MK.out;rw [q0,q1,q2];simpa using hk))
                                            have HR:=ae (And.intro ee (And.intro hx (And.intro (bt.out.but hx dR) (HB.out.but hx bL))));clear hk ee hx kb c19;go_wp2_with fail
                                            go_meet
                                            exact HR.out
                                           ·have q0:(x.state==0)=false:=by simp;omega
                                            have q1:(x.state==1)=false:=by simp;omega
                                            have q2:(x.state==2)=false:=by simp;omega
                                            have r0: ¬x.state=0:=by omega
                                            have r1: ¬x.state=1:=by omega
                                            have r2: ¬x.state=2:=by omega
                                            have MK:=ae (And.intro q0 (And.intro q1 q2));clear e e' e'';go_wp2_with fail
                                            refine (bN Jg K c _ _ 19 12 HK.out).mono ?_;rintro e w2 ⟨rfl,hk,hx⟩;have ee:cY w2 K c Om:=by(rw [DU.out];(obtain ⟨q0,q1,q2⟩:=MK.out;rw [q0,q1,q2];simpa using hk))
                                            have HR:=ae (And.intro ee (And.intro hx (And.intro (bt.out.but hx dR) (HB.out.but hx bL))));clear hk ee hx kb c19;go_wp2_with fail
                                            go_meet
                                            exact HR.out
                                         case rest=>
                                          obtain ⟨hk,hx,hA',aM⟩:=hcut;generalize wc=KS at*;have HK:=ae hk;have bt:=ae hA';have HB:=ae aM
                                          have bV:=ae (bV.out.trans hx);have bw:=ae (hx.ext bw.out bB.out)
                                          clear hk hx hA' aM;obtain ⟨S1,hs⟩: ∃s',s'=(Om.need ((x.state !=1)||(x.startTime !=0)) 19 16):=⟨_,rfl⟩;have JE:=ae hs;clear hs;go_upto_region 25 with fail
                                          go_cut [] (fun wx=>cY wx K c S1∧ak K KS wx∧aG wx E 67 x.cells∧aG wx B 141 [.pointer (some ⟨K,0,none⟩)])
                                          case first=>
                                           as_aux_lemma=>
                                            have kb:=HB.out.cl 0 (.pointer (some ⟨K,0,none⟩)) rfl;have c12:=bt.out.cl 12 (i64 x.startTime) rfl;have c19:=bt.out.cl 19 (i64 x.state) rfl;rcases Bool.eq_false_or_eq_true (x.state !=1)with hp|hp
                                            ·have HP:=ae hp
                                             go_wp2_with fail
                                             refine (bN KS K c _ _ 19 16 HK.out).mono ?_;rintro e w2 ⟨rfl,hk,hx⟩;have ee:cY w2 K c S1:=by(rw [JE.out];(rw [HP.out,Bool.true_or];exact hk))
                                             have HR:=ae (And.intro ee (And.intro hx (And.intro (bt.out.but hx dR) (HB.out.but hx bL))));clear hk ee hx kb c12 c19;go_wp2_with fail
                                             go_meet
                                             exact HR.out
                                            ·have HP:=ae hp
                                             go_wp2_with fail
                                             refine (bN KS K c _ _ 19 16 HK.out).mono ?_;rintro e w2 ⟨rfl,hk,hx⟩;have ee:cY w2 K c S1:=by(rw [JE.out];(rw [HP.out,Bool.false_or];exact hk))
                                             have HR:=ae (And.intro ee (And.intro hx (And.intro (bt.out.but hx dR) (HB.out.but hx bL))));clear hk ee hx kb c12 c19;go_wp2_with fail
                                             go_meet
                                             exact HR.out
                                          case rest=>
                                           obtain ⟨hk,hx,hA',aM⟩:=hcut;generalize wc=N6 at*;have HK:=ae hk;have bt:=ae hA';have HB:=ae aM
                                           have bV:=ae (bV.out.trans hx);have bw:=ae (hx.ext bw.out bB.out)
                                           clear hk hx hA' aM;obtain ⟨UM,hs⟩: ∃s',s'=(S1.within 20 x.hours 1 48):=⟨_,rfl⟩;have ML:=ae hs;clear hs;go_upto_region 26 with fail
                                           go_cut [] (fun wx=>cY wx K c UM∧ak K N6 wx∧aG wx E 67 x.cells∧aG wx B 141 [.pointer (some ⟨K,0,none⟩)])
                                           case first=>
                                            as_aux_lemma=>
                                                have kb:=HB.out.cl 0 (.pointer (some ⟨K,0,none⟩)) rfl;have c20:=bt.out.cl 20 (i64 x.hours) rfl;go_wp2_with fail
                                                refine (bM N6 K c _ 20 x.hours 1 48 HK.out).mono ?_;rintro e w2 ⟨rfl,hk,hx⟩;have ee:cY w2 K c UM:=by(rw [ML.out];exact hk)
                                                have HR:=ae (And.intro ee (And.intro hx (And.intro (bt.out.but hx dR) (HB.out.but hx bL))));clear hk ee hx kb c20;go_wp2_with fail
                                                go_meet
                                                exact HR.out
                                           case rest=>
                                            obtain ⟨hk,hx,hA',aM⟩:=hcut;generalize wc=KT at*;have HK:=ae hk;have bt:=ae hA';have HB:=ae aM
                                            have bV:=ae (bV.out.trans hx);have bw:=ae (hx.ext bw.out bB.out)
                                            clear hk hx hA' aM;obtain ⟨S2,hs⟩: ∃s',s'=(UM.need ((x.state !=1)||decide (x.hours≤x.startTime)) 20 3):=⟨_,rfl⟩;have JF:=ae hs;clear hs;go_upto_region 27 with fail
                                            go_cut [] (fun wx=>cY wx K c S2∧ak K KT wx∧aG wx E 67 x.cells∧aG wx B 141 [.pointer (some ⟨K,0,none⟩)])
                                            case first=>
                                                as_aux_lemma=>
                                                 have kb:=HB.out.cl 0 (.pointer (some ⟨K,0,none⟩)) rfl;have c12:=bt.out.cl 12 (i64 x.startTime) rfl;have c19:=bt.out.cl 19 (i64 x.state) rfl;have c20:=bt.out.cl 20 (i64 x.hours) rfl;rcases Bool.eq_false_or_eq_true (x.state !=1)with hp|hp
                                                 ·have HP:=ae hp
                                                  go_wp2_with fail
                                                  refine (bN KT K c _ _ 20 3 HK.out).mono ?_;rintro e w2 ⟨rfl,hk,hx⟩;have ee:cY w2 K c S2:=by(rw [JF.out];(rw [HP.out,Bool.true_or];exact hk))
                                                  have HR:=ae (And.intro ee (And.intro hx (And.intro (bt.out.but hx dR) (HB.out.but hx bL))));clear hk ee hx kb c12 c19 c20;go_wp2_with fail
                                                  go_meet
                                                  exact HR.out
                                                 ·have HP:=ae hp
                                                  go_wp2_with fail
                                                  refine (bN KT K c _ _ 20 3 HK.out).mono ?_;rintro e w2 ⟨rfl,hk,hx⟩;have ee:cY w2 K c S2:=by(rw [JF.out];(rw [HP.out,Bool.false_or];exact hk))
                                                  have HR:=ae (And.intro ee (And.intro hx (And.intro (bt.out.but hx dR) (HB.out.but hx bL))));clear hk ee hx kb c12 c19 c20;go_wp2_with fail
                                                  go_meet
                                                  exact HR.out
                                            case rest=>
                                                obtain ⟨hk,hx,hA',aM⟩:=hcut;generalize wc=Yb at*;have HK:=ae hk;have bt:=ae hA';have HB:=ae aM
                                                have bV:=ae (bV.out.trans hx);have bw:=ae (hx.ext bw.out bB.out)
                                                clear hk hx hA' aM
                                                as_aux_lemma=>
                                                 obtain ⟨Yc,hs⟩: ∃s',s'=(S2.within 21 x.output (if x.state=2 then x.min else 0) (if x.state=2 then x.max else 0)):=⟨_,rfl⟩;have JG:=ae hs;clear hs;have kb:=HB.out.cl 0 (.pointer (some ⟨K,0,none⟩)) rfl;have c2:=bt.out.cl 2 (i64 x.min) rfl;have c3:=bt.out.cl 3 (i64 x.max) rfl;have c19:=bt.out.cl 19 (i64 x.state) rfl;have mE:=bt.out.cl 21 (i64 x.output) rfl;rcases Bool.eq_false_or_eq_true (x.state==2)with hp|hp
                                                 ·have HP:=ae hp
                                                  go_wp2_with fail
                                                  refine (bM Yb K c _ 21 x.output x.min x.max HK.out).mono ?_;rintro e w2 ⟨rfl,hk,hx⟩;have ee:cY w2 K c Yc:=by(rw [JG.out];(rw [if_pos (by simpa using HP.out),if_pos (by simpa using HP.out)];exact hk))
                                                  have HR:=ae (And.intro ee (And.intro hx (And.intro (bt.out.but hx dR) (HB.out.but hx bL))));clear hk ee hx kb c2 c3 c19 mE;go_wp2_with fail
                                                  exact ⟨⟨i+1,by omega,by rw [pU.out];unfold St.kM;rw [←oX.out,←nX.out,←Ad.out,←Ck.out,←Fv.out,←Ja.out,←LF.out,←LH.out,←Jc.out,←wI.out,←FO.out,←MB.out,←MC.out,←MD.out,←ME.out,←MF.out,←MG.out,←MH.out,←MI.out,←MJ.out,←DU.out,←JE.out,←ML.out,←JF.out,←JG.out];exact HR.out.1,bV.out.trans HR.out.2.1,HR.out.2.2.2,by go_num⟩,by simp only [intOf];omega⟩
                                                 ·have HP:=ae hp
                                                  go_wp2_with fail
                                                  refine (bM Yb K c _ 21 x.output 0 0 HK.out).mono ?_;rintro e w2 ⟨rfl,hk,hx⟩;have ee:cY w2 K c Yc:=by(rw [JG.out];(rw [if_neg (by simpa using HP.out),if_neg (by simpa using HP.out)];exact hk))
                                                  have HR:=ae (And.intro ee (And.intro hx (And.intro (bt.out.but hx dR) (HB.out.but hx bL))));clear hk ee hx kb c2 c3 c19 mE;go_wp2_with fail
                                                  exact ⟨⟨i+1,by omega,by rw [pU.out];unfold St.kM;rw [←oX.out,←nX.out,←Ad.out,←Ck.out,←Fv.out,←Ja.out,←LF.out,←LH.out,←Jc.out,←wI.out,←FO.out,←MB.out,←MC.out,←MD.out,←ME.out,←MF.out,←MG.out,←MH.out,←MI.out,←MJ.out,←DU.out,←JE.out,←ML.out,←JF.out,←JG.out];exact HR.out.1,bV.out.trans HR.out.2.1,HR.out.2.2.2,by go_num⟩,by simp only [intOf];omega⟩
  ·obtain rfl:i=c.aj.length:=by omega
   go_wp2_with fail
   exact bodyPost_end (v:= .tuple #[]) (by simp [results,Tryz.results81,go_sem]) rfl ⟨rfl,hk,hx⟩
end Go.Proofs.YtkpngkdgphojlaaGreat
