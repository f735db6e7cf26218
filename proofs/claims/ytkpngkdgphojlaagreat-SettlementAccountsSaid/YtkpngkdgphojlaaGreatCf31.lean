/- Texts of the proof. -/
import Derived.Test.YtkpngkdgphojlaaGreatCf30
set_option linter.all false
set_option maxHeartbeats 4000000
set_option maxRecDepth 100000
namespace Go.Proofs.YtkpngkdgphojlaaGreat
open Go.Proofs.Tryz
open Go.RowKit
theorem lT.trans {c d e:ai} (h:lT c d) (g:lT d e):lT c e:=⟨g.1.trans h.1,g.2.1.trans h.2.1,g.2.2.1.trans h.2.2.1,g.2.2.2.1.trans h.2.2.2.1,g.2.2.2.2.1.trans h.2.2.2.2.1,g.2.2.2.2.2.trans h.2.2.2.2.2⟩
theorem Cut.trans {V w0 w:World} {c0:ai} {N:List Nat} {B R:Nat} {c d:ai} (h:Cut V w0 c0 N B R d w) (hh:d.hours=c.hours) (hs:lT c d):Cut V w0 c0 N B R c w:=by
 obtain ⟨e,U,h2,s2⟩:=h;exact ⟨e,U,h2.trans hh,hs.trans s2⟩
theorem iW.fresh {V w0 w w':World} {c0:ai} {N:List Nat} {B R:Nat} {c:ai} {a':Option Addr} (h:iW V w0 c0 N w B R c) (x:Ext w w') (hb: ∀p,a'=some p→w.heap.size≤p.block∧p.block<w'.heap.size):bT (fun b=>V.heap.size≤b∧b<w'.heap.size∧b∉(B::R::N)) a'∧bT (bA c) a':=by
 have h1:=h.box.lt;have h2:=h.res.lt;have h3:=h.cs.ext.size
 refine ⟨fun p e=> ?_,fun p e q hq=> ?_⟩
 ·have:=hb p e
  refine ⟨by omega,this.2,?_⟩;intro m;rcases List.mem_cons.1 m with e|m
  ·omega
  rcases List.mem_cons.1 m with e|m
  ·omega
  ·have:=h.nb _ m;have:=h.far.2.2;omega
 ·have h4:=hb p e;have h5:=(h.cs.bl.outer q hq).2.1
  omega
theorem DT (V w:World) (c:ai) (hn:Nat) (N:List Nat) (h:CS V w N c) (hN: ∀b∈N,b<w.heap.size) (hs:vN c) (hh:c.hours=hn+1):
 Calls prog 46 #[.agg (C8 c)] w fun e w'=> ∃d,e= .returned (.agg d.cells.toArray)∧CS V w' N d∧vN d∧d.hours=hn∧lT c d∧uq w c w' d:=by
 try unfold C8
 have jD:=ae hN;have H:=ae h;have HS:=ae hs;have HH:=ae hh
 clear h hN hs hh;go_enter func46,ntmps46
 go_upto_region 1 with fail
 generalize hW:World.alloc w _=W;generalize hW2:World.alloc W _=W2;obtain ⟨B,R,hB,hR,U0⟩:=zR H.o jD.o HS.o hW hW2;rw [←hB,hR];have HU:=ae U0;have hb:=ai.at U0.box;have f0:=U0.box.frozen 0;have q0:IntKind.i64.wrap (c.hours-1)=(hn:Int):=by rw [IntKind.wrap_i64,HH.o];have:=HS.o.hours;have:=HH.o;omega
 clear hW hB hW2 hR U0 H;go_upto_region 2 with fail
 have U1:=HU.o.hours hn (by have:=HH.o;omega);generalize W2.setCell ⟨B,0,none⟩ (i64 (hn:Int))=W3 at*;have Yt:=ae U1;clear hb f0 q0 HU;have hb:=ai.at U1.box;have f1:=U1.box.frozen 1;have b0:(0:Int)≤(hn:Int):=by omega
 have b1:hn≤c.rc:=by have:=HS.o.res;have:=HH.o;have:=Yt.o.cs.ci.aA.le;simp only at this;omega
 have b2:(hn:Int)≤(c.rc:Int):=by omega
 clear U1;go_upto_region 3 with fail
 have U2:=Yt.o.aA hn rfl;obtain ⟨c1,hc1⟩: ∃c1,c1={({c with hours:=(hn:Int)}:ai)with aA:=c.aA.take hn}:=⟨_,rfl⟩;have H0:Hid (Cut V w c N B R c1 (W3.setCell ⟨B,1,none⟩ (.slice c.ra hn c.rc))):=⟨c1,by rw [hc1];exact U2,rfl,lT.refl _⟩;have sO:Hid (c1.hours=hn∧lT c c1):=by rw [hc1];exact ⟨rfl,rfl,rfl,rfl,rfl,rfl,rfl⟩
 generalize W3.setCell ⟨B,1,none⟩ (.slice c.ra hn c.rc)=W4 at*;clear U2 hc1 hb f1 b1 b2 Yt;go_wp2_with fail
 go_loopw [3] (fun kv wr=> ∃k:Nat,k≤c1.aj.length∧Cut V w c N B R c1 wr∧kv= .int .i64 (k:Int)) (fun kv _=>c1.aj.length-(intOf kv).toNat)
 case atStart=>exact ⟨0,Nat.zero_le _,H0.o,rfl⟩
 case round=>
  obtain ⟨k,hk,⟨d,U,hh,hsm⟩,rfl⟩:=hrel;clear H0;have hbl:d.aj.length=c1.aj.length:=hsm.1;have DU:d.hours=hn:=hh.trans sO.o.1;obtain ⟨k0,k1,k2,k3,k4,k5,k6,k7⟩:=ai.at U.box;have BU:=U.cs.ci.aj.le;have Nl:=U.cs.ci.aj.cap
  rw [List.length_map]at BU;rw [hbl]at k2;have HU:=ae U;have kg:=ae hsm;have uM:=ae hh;have iG:=ae hbl;have O0:=ae DU
  rw [DU]at k0;clear U hsm hh DU;by_cases hlt:k<c1.aj.length
  ·have CY:(0:Int)≤(k:Int):=by omega
   have CZ:(k:Int)<(c1.aj.length:Int):=by omega
   have q1:IntKind.i64.wrap ((k:Int)+1)=((k+1:Nat):Int):=by rw [IntKind.wrap_i64];omega
   go_upto_region 6 with fail
   have U':=HU.o.grow (Ext.refl wr).drew;obtain ⟨g,hg,f1,c0,hdc,hcut⟩:=U'.OZ k (by rw [iG.o];exact hlt) O0.o;have hb0:wr.drew.cell? ⟨B,0,none⟩=some (i64 (hn:Int)):=k0;have hb2:wr.drew.cell? ⟨B,2,none⟩=some (.slice (some ⟨g,0,none⟩) c1.aj.length d.bc):=by rw [←hg];exact k2
   generalize d.aj[k]=b at*;have oD:=ae hcut;clear hcut U' k0 k1 k2 k3 k4 k5 k6 k7 hbl hg;refine zG 14 (fun w=>w.cell? ⟨B,0,none⟩=some (i64 (hn:Int))∧w.cell? ⟨B,2,none⟩=some (.slice (some ⟨g,0,none⟩) c1.aj.length d.bc)∧w.cell? ⟨g,k*3+1,none⟩=some (.slice b.da b.cf.length b.dc)) ⟨hb0,hb2,c0⟩ fun e=> ?_;iterate 12 refine zI 0 e ?_
   refine zJ 0 e ?_;refine zI 0 e ?_;refine zL 14 fun K' hK=> ?_;obtain ⟨-,-,c0⟩:=e;go_simp;refine hK.o _ _ ?_;clear hK c0 f1;go_wp2_with fail
   exact ⟨⟨k+1,by omega,oD.o.trans uM.o kg.o,by go_num⟩,by simp only [intOf];omega⟩
  ·obtain rfl:k=c1.aj.length:=by omega
   have H1:Hid (Cut V w c N B R c1 wr):=⟨d,HU.o,uM.o,kg.o⟩;go_wp2_with fail
   go_loopw [4] (fun kv wr=> ∃k:Nat,k≤c1.aB.length∧Cut V w c N B R c1 wr∧kv= .int .i64 (k:Int)) (fun kv _=>c1.aB.length-(intOf kv).toNat)
   case atStart=>exact ⟨0,Nat.zero_le _,H1.o,rfl⟩
   case round=>
    obtain ⟨k,hk,⟨d,U,hh,hsm⟩,rfl⟩:=hrel;clear H1;have hbl:d.aB.length=c1.aB.length:=hsm.2.2.2.2.1;have DU:d.hours=hn:=hh.trans sO.o.1;obtain ⟨k0,k1,k2,k3,k4,k5,k6,k7⟩:=ai.at U.box;have BU:=U.cs.ci.aB.le;have Nl:=U.cs.ci.aB.cap
    rw [List.length_map]at BU;rw [hbl]at k6;have HU:=ae U;have kg:=ae hsm;have uM:=ae hh;have iG:=ae hbl;have O0:=ae DU
    rw [DU]at k0;clear U hsm hh DU;by_cases hlt:k<c1.aB.length
    ·have CY:(0:Int)≤(k:Int):=by omega
     have CZ:(k:Int)<(c1.aB.length:Int):=by omega
     have q1:IntKind.i64.wrap ((k:Int)+1)=((k+1:Nat):Int):=by rw [IntKind.wrap_i64];omega
     obtain ⟨g,hg,-⟩:=HU.o.JE k (by rw [iG.o];exact hlt) O0.o;rw [hg]at k6;go_upto_region 11 with fail
     have U':=HU.o.grow (Ext.refl wr).drew;obtain ⟨g2,hg2,hgB,⟨cur,hA,c2,c3,c4⟩,hdc,hcut⟩:=U'.JE k (by rw [iG.o];exact hlt) O0.o;have e2:g2=g:=by rw [hg]at hg2;cases hg2;rfl
     subst e2;have hBx:=U'.box;have hb0:wr.drew.cell? ⟨B,0,none⟩=some (i64 (hn:Int)):=k0;rw [←hA.cell]at c2 c3 c4;obtain ⟨dh1,dh2,dh3⟩:=hdc;generalize d.aB[k]=b at*;have oD:=ae hcut;have HA:=ae hA;have SY:=ae hBx;have Yu:=ae hgB
     clear hcut U' k0 k1 k2 k3 k4 k5 k6 k7 hbl hg hg2 hA hBx hgB;refine yG (fun j=>j==26||j==29||j==32) (fun w=>w.cell? ⟨B,0,none⟩=some (i64 (hn:Int))) (fun w=>w.cell? ⟨g2,k*5+2,none⟩=some (.slice b.ia b.imp.length b.ic)∧w.cell? ⟨g2,k*5+3,none⟩=some (.slice b.ea b.exp.length b.ec)∧w.cell? ⟨g2,k*5+4,none⟩=some (.slice b.pa b.aV.length b.pc)) hb0 ⟨c2,c3,c4⟩ fun s r=> ?_;generalize wr.drew=Y at*;iterate 6 refine yT 0 s r ?_
     refine yR 0 s r ?_;iterate 6 refine yT 0 s r ?_
     refine yR 0 s r ?_;iterate 6 refine yT 0 s r ?_
     refine yR 0 s r ?_;iterate 5 refine yT 0 s r ?_
     refine yZ 26 fun K' hK=> ?_;have f2:=HA.o.frozen (k*5+2);obtain ⟨r2,r3,r4⟩:=r;go_simp;have mi:=ae (HA.o.set (k*5+2) (.slice b.ia hn b.ic));have O3:=ae (SY.o.other ⟨g2,k*5+2,none⟩ (.slice b.ia hn b.ic) Yu.o);have c31:(Y.setCell ⟨g2,k*5+2,none⟩ (.slice b.ia hn b.ic)).cell? ⟨g2,k*5+3,none⟩=some (.slice b.ea b.exp.length b.ec):=by rw [mi.o.cell,List.getElem?_set_ne (by omega),←HA.o.cell];exact r3
     have c41:(Y.setCell ⟨g2,k*5+2,none⟩ (.slice b.ia hn b.ic)).cell? ⟨g2,k*5+4,none⟩=some (.slice b.pa b.aV.length b.pc):=by rw [mi.o.cell,List.getElem?_set_ne (by omega),←HA.o.cell];exact r4
     have s1:(Y.setCell ⟨g2,k*5+2,none⟩ (.slice b.ia hn b.ic)).cell? ⟨B,0,none⟩=some (i64 (hn:Int)):=by rw [O3.o.cell,←SY.o.cell];exact s
     clear f2 r2 r3 r4 c2 c3 c4 hb0 s;generalize Y.setCell ⟨g2,k*5+2,none⟩ (.slice b.ia hn b.ic)=Y1 at*;refine hK.o _ _ s1 fun s=> ?_;clear hK s1;iterate 2 refine yL 0 s ?_
     refine yZ 29 fun K' hK=> ?_;have f3:=mi.o.frozen (k*5+3);go_simp;have sq:=ae (mi.o.set (k*5+3) (.slice b.ea hn b.ec));have O4:=ae (O3.o.other ⟨g2,k*5+3,none⟩ (.slice b.ea hn b.ec) Yu.o);have c42:(Y1.setCell ⟨g2,k*5+3,none⟩ (.slice b.ea hn b.ec)).cell? ⟨g2,k*5+4,none⟩=some (.slice b.pa b.aV.length b.pc):=by rw [sq.o.cell,List.getElem?_set_ne (by omega),←mi.o.cell];exact c41
     have s2:(Y1.setCell ⟨g2,k*5+3,none⟩ (.slice b.ea hn b.ec)).cell? ⟨B,0,none⟩=some (i64 (hn:Int)):=by rw [O4.o.cell,←O3.o.cell];exact s
     clear f3 c31 c41 s;generalize Y1.setCell ⟨g2,k*5+3,none⟩ (.slice b.ea hn b.ec)=Y2 at*;refine hK.o _ _ s2 fun s=> ?_;clear hK s2;iterate 2 refine yL 0 s ?_
     refine yZ 32 fun K' hK=> ?_;have f4:=sq.o.frozen (k*5+4);go_simp;have Yv:=ae (O4.o.other ⟨g2,k*5+4,none⟩ (.slice b.pa hn b.pc) Yu.o);have s3:(Y2.setCell ⟨g2,k*5+4,none⟩ (.slice b.pa hn b.pc)).cell? ⟨B,0,none⟩=some (i64 (hn:Int)):=by rw [Yv.o.cell,←O4.o.cell];exact s
     clear f4 c42 s;generalize Y2.setCell ⟨g2,k*5+4,none⟩ (.slice b.pa hn b.pc)=Y3 at*;refine hK.o _ _ s3 fun s=> ?_;clear hK s3 s;refine yD ?_;go_wp2_with fail
     exact ⟨⟨k+1,by omega,oD.o.trans uM.o kg.o,by go_num⟩,by simp only [intOf];omega⟩
    ·obtain rfl:k=c1.aB.length:=by omega
     have H1:Hid (Cut V w c N B R c1 wr):=⟨d,HU.o,uM.o,kg.o⟩;go_wp2_with fail
     go_loopw [6] (fun kv wr=> ∃k:Nat,k≤c1.lines.length∧Cut V w c N B R c1 wr∧kv= .int .i64 (k:Int)) (fun kv _=>c1.lines.length-(intOf kv).toNat)
     case atStart=>exact ⟨0,Nat.zero_le _,H1.o,rfl⟩
     case round=>
      obtain ⟨k,hk,⟨d,U,hh,hsm⟩,rfl⟩:=hrel;clear H1;have hbl:d.lines.length=c1.lines.length:=hsm.2.1;have DU:d.hours=hn:=hh.trans sO.o.1;obtain ⟨k0,k1,k2,k3,k4,k5,k6,k7⟩:=ai.at U.box;have BU:=U.cs.ci.lines.le;have Nl:=U.cs.ci.lines.cap
      rw [List.length_map]at BU;rw [hbl]at k3;have HU:=ae U;have kg:=ae hsm;have uM:=ae hh;have iG:=ae hbl;have O0:=ae DU
      rw [DU]at k0;clear U hsm hh DU;by_cases hlt:k<c1.lines.length
      ·have CY:(0:Int)≤(k:Int):=by omega
       have CZ:(k:Int)<(c1.lines.length:Int):=by omega
       have q1:IntKind.i64.wrap ((k:Int)+1)=((k+1:Nat):Int):=by rw [IntKind.wrap_i64];omega
       go_upto_region 15 with fail
       have U':=HU.o.grow (Ext.refl wr).drew;have nE:k<d.lines.length:=by rw [iG.o];exact hlt
       have zS:=U'.cs.ci.line _ (List.getElem_mem nE);have LS:=U'.iK.line _ (List.getElem_mem nE);obtain ⟨g,hg,f1,c0,-⟩:=U'.Fk k nE _ _ _ zS.2.1 (U'.cs.bl.line _ (List.getElem_mem nE)) (U'.cs.sp.off.line _ (List.getElem_mem nE)) LS;have hb0:wr.drew.cell? ⟨B,0,none⟩=some (i64 (hn:Int)):=k0;have hb2:wr.drew.cell? ⟨B,3,none⟩=some (.slice (some ⟨g,0,none⟩) c1.lines.length d.lc):=by rw [←hg];exact k3
       have hle:=zS.2.1.le;have dQ:=zS.2.1.cap
       have uk:=ae zS.2.1;have BV:=ae nE;have HG:=ae hg
       have GI:=fun(Z:World) (x:Ext wr.drew Z) a' c' l' (hi:aI Z a' c' l') hP hO hl=>(U'.grow x).Fk k nE a' c' l' hi hP hO hl;have zq:=fun(Z:World) (a':Option Addr) (x:Ext wr.drew Z) hb=>U'.fresh (a':=a') x hb;have GI:=ae GI;have zq:=ae zq
       generalize d.lines[k]=b at*;clear U' k0 k1 k2 k3 k4 k5 k6 k7 hbl hg f1 zS nE;refine yG (fun j=>j==14) (fun _=>True) (fun w=>w.cell? ⟨B,0,none⟩=some (i64 (hn:Int))∧w.cell? ⟨B,3,none⟩=some (.slice (some ⟨g,0,none⟩) c1.lines.length d.lc)∧w.cell? ⟨g,k*12+11,none⟩=some (.slice b.aa b.away.length b.ac)) trivial ⟨hb0,hb2,c0⟩ fun s r=> ?_;generalize wr.drew=Y at*;iterate 11 refine yR 0 s r ?_
       refine yC 11 fun K' hK=> ?_;go_simp;refine (BR Y _ _ _ _ uk.o (by omega) (by have:=HS.o.hours;have:=HH.o;unfold bB;omega)).mono ?_;rintro e Z ⟨a',c',l',rfl,hi,hb,pJ,x⟩;obtain ⟨r1,r2,r3⟩:=r;refine hK.o _ _ trivial ⟨ak x r1,ak x r2,ak x r3⟩ fun s r=> ?_;have hf:=zq.o Z a' x hb;obtain ⟨g2,hg2,f2,c2,hcut⟩:=GI.o Z x a' c' l' hi hf.1 hf.2 (by omega);have e2:g2=g:=by rw [HG.o]at hg2;cases hg2;rfl
       subst e2;have oD:=ae hcut;clear hK hcut hf hg2 hi hb pJ x r1 r2 r3 hb0 hb2 c0;iterate 2 refine yT 0 s r ?_
       refine yZ 14 fun K' hK=> ?_;go_simp;refine hK.o _ _ trivial fun s=> ?_;clear hK r c2 f2;refine yD ?_;go_wp2_with fail
       exact ⟨⟨k+1,by omega,oD.o.trans uM.o kg.o,by go_num⟩,by simp only [intOf];omega⟩
      ·obtain rfl:k=c1.lines.length:=by omega
       have H1:Hid (Cut V w c N B R c1 wr):=⟨d,HU.o,uM.o,kg.o⟩;go_wp2_with fail
       go_loopw [7] (fun kv wr=> ∃k:Nat,k≤c1.aq.length∧Cut V w c N B R c1 wr∧kv= .int .i64 (k:Int)) (fun kv _=>c1.aq.length-(intOf kv).toNat)
       case atStart=>exact ⟨0,Nat.zero_le _,H1.o,rfl⟩
       case round=>
        obtain ⟨k,hk,⟨d,U,hh,hsm⟩,rfl⟩:=hrel;clear H1;have hbl:d.aq.length=c1.aq.length:=hsm.2.2.1;have DU:d.hours=hn:=hh.trans sO.o.1;obtain ⟨k0,k1,k2,k3,k4,k5,k6,k7⟩:=ai.at U.box;have BU:=U.cs.ci.aq.le;have Nl:=U.cs.ci.aq.cap
        rw [List.length_map]at BU;rw [hbl]at k4;have HU:=ae U;have kg:=ae hsm;have uM:=ae hh;have iG:=ae hbl;have O0:=ae DU
        rw [DU]at k0;clear U hsm hh DU;by_cases hlt:k<c1.aq.length
        ·have CY:(0:Int)≤(k:Int):=by omega
         have CZ:(k:Int)<(c1.aq.length:Int):=by omega
         have q1:IntKind.i64.wrap ((k:Int)+1)=((k+1:Nat):Int):=by rw [IntKind.wrap_i64];omega
         go_upto_region 19 with fail
         have U':=HU.o.grow (Ext.refl wr).drew;have nE:k<d.aq.length:=by rw [iG.o];exact hlt
         have zS:=U'.cs.ci.unit _ (List.getElem_mem nE);have LS:=U'.iK.unit _ (List.getElem_mem nE);obtain ⟨g,hg,f1,c0,-⟩:=U'.Fl k nE _ _ _ zS.2.1 (U'.cs.bl.unit _ (List.getElem_mem nE)).2 (U'.cs.sp.off.unit _ (List.getElem_mem nE)).2 LS;have hb0:wr.drew.cell? ⟨B,0,none⟩=some (i64 (hn:Int)):=k0;have hb2:wr.drew.cell? ⟨B,4,none⟩=some (.slice (some ⟨g,0,none⟩) c1.aq.length d.uc):=by rw [←hg];exact k4
         have hle:=zS.2.1.le;have dQ:=zS.2.1.cap
         have uk:=ae zS.2.1;have BV:=ae nE;have HG:=ae hg
         have GI:=fun(Z:World) (x:Ext wr.drew Z) a' c' l' (hi:aI Z a' c' l') hP hO hl=>(U'.grow x).Fl k nE a' c' l' hi hP hO hl;have zq:=fun(Z:World) (a':Option Addr) (x:Ext wr.drew Z) hb=>U'.fresh (a':=a') x hb;have GI:=ae GI;have zq:=ae zq
         generalize d.aq[k]=b at*;clear U' k0 k1 k2 k3 k4 k5 k6 k7 hbl hg f1 zS nE;refine yG (fun j=>j==14) (fun _=>True) (fun w=>w.cell? ⟨B,0,none⟩=some (i64 (hn:Int))∧w.cell? ⟨B,4,none⟩=some (.slice (some ⟨g,0,none⟩) c1.aq.length d.uc)∧w.cell? ⟨g,k*22+18,none⟩=some (.slice b.aa b.away.length b.ac)) trivial ⟨hb0,hb2,c0⟩ fun s r=> ?_;generalize wr.drew=Y at*;iterate 11 refine yR 0 s r ?_
         refine yC 11 fun K' hK=> ?_;go_simp;refine (BR Y _ _ _ _ uk.o (by omega) (by have:=HS.o.hours;have:=HH.o;unfold bB;omega)).mono ?_;rintro e Z ⟨a',c',l',rfl,hi,hb,pJ,x⟩;obtain ⟨r1,r2,r3⟩:=r;refine hK.o _ _ trivial ⟨ak x r1,ak x r2,ak x r3⟩ fun s r=> ?_;have hf:=zq.o Z a' x hb;obtain ⟨g2,hg2,f2,c2,hcut⟩:=GI.o Z x a' c' l' hi hf.1 hf.2 (by omega);have e2:g2=g:=by rw [HG.o]at hg2;cases hg2;rfl
         subst e2;have oD:=ae hcut;clear hK hcut hf hg2 hi hb pJ x r1 r2 r3 hb0 hb2 c0;iterate 2 refine yT 0 s r ?_
         refine yZ 14 fun K' hK=> ?_;go_simp;refine hK.o _ _ trivial fun s=> ?_;clear hK r c2 f2;refine yD ?_;go_wp2_with fail
         exact ⟨⟨k+1,by omega,oD.o.trans uM.o kg.o,by go_num⟩,by simp only [intOf];omega⟩
        ·obtain rfl:k=c1.aq.length:=by omega
         have H1:Hid (Cut V w c N B R c1 wr):=⟨d,HU.o,uM.o,kg.o⟩;go_upto_region 20 with fail
         have mH: ∀j v,([i64 d.hours,.slice d.ra d.aA.length d.rc,.slice d.ba d.aj.length d.bc,.slice d.la d.lines.length d.lc,.slice d.ua d.aq.length d.uc,.slice d.sa d.stores.length d.sc,.slice d.ta d.aB.length d.tc,.slice d.oa d.outs.length d.oc])[j]?=some v→wr.cell? ((⟨B,0,none⟩:Addr).add j)=some v:=fun j v hj=>by rw [cF,HU.o.box.cell j];exact hj
         have DV:=HU.o.res;go_wp2_with (first|(refine aT rfl 32 _ rfl ⟨B,0,none⟩ rfl [i64 d.hours,.slice d.ra d.aA.length d.rc,.slice d.ba d.aj.length d.bc,.slice d.la d.lines.length d.lc,.slice d.ua d.aq.length d.uc,.slice d.sa d.stores.length d.sc,.slice d.ta d.aB.length d.tc,.slice d.oa d.outs.length d.oc] _ mH rfl rfl (by kernel_rfl) ?_)|(refine bp rfl 32 _ _ rfl R lS.cells [i64 d.hours,.slice d.ra d.aA.length d.rc,.slice d.ba d.aj.length d.bc,.slice d.la d.lines.length d.lc,.slice d.ua d.aq.length d.uc,.slice d.sa d.stores.length d.sc,.slice d.ta d.aB.length d.tc,.slice d.oa d.outs.length d.oc] DV rfl rfl (by kernel_rfl) rfl rfl ?_;intro qO kZ dI))
         have U9:=HU.o;have C9:=U9.cs.but dI (by simp) U9.pos.2.1;refine bodyPost_ret (v:= .agg ([i64 d.hours,.slice d.ra d.aA.length d.rc,.slice d.ba d.aj.length d.bc,.slice d.la d.lines.length d.lc,.slice d.ua d.aq.length d.uc,.slice d.sa d.stores.length d.sc,.slice d.ta d.aB.length d.tc,.slice d.oa d.outs.length d.oc]).toArray) (fL 2 _ rfl rfl kZ rfl rfl (by kernel_rfl)) rfl ⟨d,rfl,⟨C9.ci,C9.sp,C9.bl.mono fun b hb=>⟨hb.1,hb.2.1,fun m=>hb.2.2 (List.mem_cons_of_mem _ (List.mem_cons_of_mem _ m))⟩,C9.ext⟩,U9.iK,O0.o,sO.o.2.trans kg.o,U9.far.but dI fun b hb _=>by have:=U9.kb;omega⟩
theorem bH.take {w:World} {m:Nat} {a:Option Addr} {c:Nat} {rows:List (List Value)} (h:bH w m a c rows) (n:Nat):bH w m a c (rows.take n):=by
 refine ⟨Nat.le_trans (by rw [List.length_take];omega) h.le,h.cap,fun i hi=> ?_⟩;rw [List.length_take]at hi;obtain ⟨b,o,e,q⟩:=h.cell i (by omega)
 exact ⟨b,o,e,fun j hj=>by
  have e2:(rows.take n)[i]=rows[i]:=List.getElem_take;have XL:j<(rows[i]).length:=by rw [e2]at hj;exact hj
  rw [q j XL];congr 1
  exact (List.getElem_of_eq e2.symm _)⟩
theorem iW.aq {V w0 w:World} {c0:ai} {N:List Nat} {B R:Nat} {c:ai} (h:iW V w0 c0 N w B R c) (n:Nat) (hn:n≤c.aq.length):iW V w0 c0 N (w.setCell ⟨B,4,none⟩ (.slice c.ua n c.uc)) B R {c with aq:=c.aq.take n}:=by
 have hx:=(ar.refl B w).eL (o:=4) (v:= .slice c.ua n c.uc);have q:=h.cs.but hx (by simp) h.pos.1;have hs:=h.iK;have hl:(c.aq.take n).length=n:=by rw [List.length_take];omega
 have hb:=h.box.set 4 (.slice c.ua n c.uc);have hr:=q.ci.aq.take n;rw [←List.map_take]at hr;refine ⟨⟨{q.ci with aq:=hr,unit:=fun u hu=>q.ci.unit u (List.mem_of_mem_take hu)},{q.sp with off:={q.sp.off with unit:=fun u hu=>q.sp.off.unit u (List.mem_of_mem_take hu)}},{q.bl with unit:=fun u hu=>q.bl.unit u (List.mem_of_mem_take hu)},q.ext⟩,?_,h.res.but hx (Ne.symm h.pos.2.2),{hs with unit:=fun u hu=>hs.unit u (List.mem_of_mem_take hu),small:= ?_},h.pos,h.far.but hx (fun b hb _=>by have:=h.kb;omega),h.kb,h.nb⟩
 ·simp only [ai.cells,hl];exact hb
 ·have:=hs.small;simp only [hl];omega
theorem iW.JF {V w0 w:World} {c0:ai} {N:List Nat} {B R:Nat} {c:ai} (h:iW V w0 c0 N w B R c) (k:Nat) (hk:k<c.outs.length) (a':Option Addr) (c':Nat) (l':List bL) (hi:bH w 3 a' c' (l'.map bL.cells)∧ ∀m∈l',eI [m.unit,m.up,m.down]) (hP:bT (fun b=>V.heap.size≤b∧b<w.heap.size∧b∉(B::R::N)) a') (hO:bT (bA c) a') (hl:l'.length≤100):
 ∃g,c.oa=some ⟨g,0,none⟩∧w.frozen? ⟨g,k*4+3,none⟩=false∧w.cell? ⟨g,k*4+3,none⟩=some (.slice c.outs[k].ma c.outs[k].moves.length c.outs[k].mc)∧Cut V w0 c0 N B R c (w.setCell ⟨g,k*4+3,none⟩ (.slice a' l'.length c')):=by
 have hm:=List.getElem_mem hk;have hc:=h.cs.ci.o _ hm
 have hS: ∀b∈c.outs.set k {c.outs[k]with ma:=a',mc:=c',moves:=l'},b.lines.length≤100∧b.moves.length≤100:=fun b hb=>by
  rcases List.mem_or_eq_of_mem_set hb with q|rfl
  ·exact h.iK.o b q
  ·exact ⟨(h.iK.o _ hm).1,hl⟩
 obtain ⟨g,h1,h2,h3,h4,h5,h6,h7⟩:=h.zQ k 3 hk (by decide) (.slice a' l'.length c') {c.outs[k]with ma:=a',mc:=c',moves:=l'} rfl ⟨hc.1,hc.2.1,hi⟩ (h.cs.bl.o c.outs[k] hm).1 (h.cs.sp.off.o c.outs[k] hm).1 hP hO {h.iK with o:=hS,small:=by have:=h.iK.small;simp only [List.length_set];exact this};exact ⟨g,h1,h2,h3 3 (by decide),_,h7,rfl,rfl,rfl,rfl,rfl,rfl,by simp only [List.length_set]⟩
theorem CS.Fm {V w:World} {N:List Nat} {c:ai} (h:CS V w N c) (hk:0<c.outs.length): ∃g,c.oa=some ⟨g,0,none⟩:=by
 obtain ⟨b,o,e,-⟩:=h.ci.outs.cell 0 (by rw [List.length_map];exact hk);obtain ⟨g,cur,e2,-⟩:=h.sp.oa _ e;rw [e2]at e;exact ⟨g,e⟩
theorem BW (V w:World) (c:ai) (N:List Nat) (h:CS V w N c) (hN: ∀b∈N,b<w.heap.size) (hs:vN c) (hu:0<c.aq.length):
 Calls prog 47 #[.agg (C8 c)] w fun e w'=> ∃d,e= .returned (.agg d.cells.toArray)∧CS V w' N d∧vN d∧d.hours=c.hours∧d.aq.length=c.aq.length-1∧lT {c with aq:=c.aq.take (c.aq.length-1)} d∧uq w c w' d:=by
 try unfold C8
 have jD:=ae hN;have H:=ae h;have HS:=ae hs;have Rh:=ae hu
 clear h hN hs hu;go_enter func47,ntmps47
 go_upto_region 1 with fail
 generalize hW:World.alloc w _=W;generalize hW2:World.alloc W _=W2;obtain ⟨B,R,hB,hR,U0⟩:=zR H.o jD.o HS.o hW hW2;rw [←hB,hR];have HU:=ae U0;have hb:=ai.at U0.box;have f4:=U0.box.frozen 4;obtain ⟨n,hn⟩: ∃n,n=c.aq.length-1:=⟨_,rfl⟩;have nW:Hid (n=c.aq.length-1∧n+1=c.aq.length∧n≤100):=by have:=Rh.o;have:=HS.o.small;show _∧_;omega
 have q0:IntKind.i64.wrap ((c.aq.length:Int)-1)=(n:Int):=by rw [IntKind.wrap_i64];have:=nW.o;omega
 have hle:=U0.cs.ci.aq.le;have dQ:=U0.cs.ci.aq.cap
 rw [List.length_map]at hle;have b0:(0:Int)≤(n:Int):=by omega
 have b2:(n:Int)≤(c.uc:Int):=by have:=nW.o;omega
 clear hW hB hW2 hR U0 H hn;go_upto_region 3 with fail
 have U2:=HU.o.aq n (by have:=nW.o;omega);obtain ⟨c1,hc1⟩: ∃c1,c1={c with aq:=c.aq.take n}:=⟨_,rfl⟩;have H0:Hid (Cut V w c N B R c1 (W2.setCell ⟨B,4,none⟩ (.slice c.ua n c.uc))):=⟨c1,by rw [hc1];exact U2,rfl,lT.refl _⟩;have sO:Hid (c1={c with aq:=c.aq.take n}∧c1.aq.length=n):=⟨hc1,by rw [hc1,List.length_take];have:=nW.o;omega⟩;generalize W2.setCell ⟨B,4,none⟩ (.slice c.ua n c.uc)=W4 at*;clear U2 hc1 hb f4 q0 hle dQ b2 HU;go_wp2_with fail
 go_loopw [4] (fun kv wr=> ∃k:Nat,k≤c1.outs.length∧Cut V w c N B R c1 wr∧kv= .int .i64 (k:Int)) (fun kv _=>c1.outs.length-(intOf kv).toNat)
 case atStart=>exact ⟨0,Nat.zero_le _,H0.o,rfl⟩
 case round=>
  obtain ⟨k,hk,⟨d,U,hh,hsm⟩,rfl⟩:=hrel;clear H0;have hbl:d.outs.length=c1.outs.length:=hsm.2.2.2.2.2;obtain ⟨k0,k1,k2,k3,k4,k5,k6,k7⟩:=ai.at U.box;have BU:=U.cs.ci.outs.le;have Nl:=U.cs.ci.outs.cap
  rw [List.length_map]at BU;rw [hbl]at k7;have HU:=ae U;have kg:=ae hsm;have uM:=ae hh;have iG:=ae hbl
  clear U hsm hh;by_cases hlt:k<c1.outs.length
  ·have CY:(0:Int)≤(k:Int):=by omega
   have CZ:(k:Int)<(c1.outs.length:Int):=by omega
   have q1:IntKind.i64.wrap ((k:Int)+1)=((k+1:Nat):Int):=by rw [IntKind.wrap_i64];omega
   obtain ⟨g,hg⟩:=HU.o.cs.Fm (by rw [iG.o];omega);have nE:k<d.outs.length:=by rw [iG.o];exact hlt
   have zS:=HU.o.cs.ci.o _ (List.getElem_mem nE);have LS:=HU.o.iK.o _ (List.getElem_mem nE);rw [hg]at k7
   have hcell: ∀Z,Ext wr Z→Z.cell? ⟨g,k*4+3,none⟩=some (.slice d.outs[k].ma d.outs[k].moves.length d.outs[k].mc):=fun Z x=>by
    obtain ⟨b,o,e,q⟩:=HU.o.cs.ci.outs.cell k (by rw [List.length_map];exact nE);rw [hg]at e;cases e
    have q2:=q 3 (by rw [List.getElem_map];exact (by decide:3<4));rw [Nat.zero_add]at q2;refine ak x (q2.trans ?_);congr 1
    exact (List.getElem_of_eq (List.getElem_map ..) _)
   have oD:=fun(Z:World) (x:Ext wr Z) a' c' l' hi hP hO hl=>(HU.o.grow x).JF k nE a' c' l' hi hP hO hl;have oD:=ae oD;have HG:=ae hg;have uk:=ae zS;have KT:=ae LS;have S0:=ae hcell
   have Sw:=zS.2.2.1.le;have hmc:=zS.2.2.1.cap
   rw [List.length_map]at Sw;generalize d.outs[k]=b at*;clear zS nE hg LS hcell;go_upto_region 7 with fail
   go_wp2_with fail
   obtain ⟨w1,gH⟩: ∃w1,w1=wr:=⟨_,rfl⟩;subst gH;go_loopw [5,6] (fun lv jv wr=> ∃(j:Nat) (a':Option Addr) (c':Nat) (l':List bL),j≤b.moves.length∧l'.length≤j∧(∀m∈l',eI [m.unit,m.up,m.down])∧lv= .slice a' l'.length c'∧aJ wr w1.heap.size 140 3 (.slice a' l'.length c') (l'.map bL.cells)∧Ext w1 wr∧jv= .int .i64 (j:Int)) (fun _ jv _=>b.moves.length-(intOf jv).toNat)
   case atStart=>exact ⟨0,none,0,[],Nat.zero_le _,Nat.le_refl _,(fun m hm=>by cases hm),rfl,aJ.nil _ _ _ _,Ext.refl _,rfl⟩
   case round=>
    obtain ⟨j,a',c',l',hj,wM,hl2,rfl,hown,hx,rfl⟩:=hrel;have z7:=ak hx k7;have z3:=S0.o wr hx;have HO:=ae hown;have HX:=ae hx;have HI:=ae hl2
    clear hown hx hl2;by_cases yY:j<b.moves.length
    ·have NZ:(0:Int)≤(j:Int):=by omega
     have N1:(j:Int)<(b.moves.length:Int):=by omega
     have q2:IntKind.i64.wrap ((j:Int)+1)=((j+1:Nat):Int):=by rw [IntKind.wrap_i64];have:=KT.o;omega
     obtain ⟨mb,mo,hma,LU⟩:=(uk.o.2.2.1.ext HX.o).cell j (by rw [List.length_map];exact yY);have hm6:=uk.o.2.2.2 _ (List.getElem_mem yY)
     have m0:wr.cell? ⟨mb,mo+j*3,none⟩=some (i64 b.moves[j].unit):=by
      have q:=LU 0 (by rw [List.getElem_map];exact (by decide:0<3));refine q.trans ?_;congr 1
      exact (List.getElem_of_eq (List.getElem_map ..) _)
     have m1:wr.cell? ⟨mb,mo+j*3+1,none⟩=some (i64 b.moves[j].up):=by
      have q:=LU 1 (by rw [List.getElem_map];exact (by decide:1<3));refine q.trans ?_;congr 1
      exact (List.getElem_of_eq (List.getElem_map ..) _)
     have m2:wr.cell? ⟨mb,mo+j*3+2,none⟩=some (i64 b.moves[j].down):=by
      have q:=LU 2 (by rw [List.getElem_map];exact (by decide:2<3));refine q.trans ?_;congr 1
      exact (List.getElem_of_eq (List.getElem_map ..) _)
     have HM6:=ae hm6;generalize b.moves[j]=mv at*;rw [hma]at z3;clear LU hm6;by_cases Wc:mv.unit<(n:Int)
     ·go_wp2_with (first
       |(refine gW rfl 85 _ rfl 140 (.agg #[i64 0,i64 0,i64 0]) 3 24 underlying85 Tryz.info_move (by decide) (by decide) mv.cells rfl rfl ?_
         intro W1 hB x1;have HB:=ae hB;have p9:=ae (HO.o.ext x1);have eE:=ae (HX.o.trans x1);clear hB x1)
       |(at_builtin
         refine iw _ _ 85 140 (.agg #[i64 0,i64 0,i64 0]) 3 24 rfl rfl underlying85 Tryz.info_move rfl (by decide) (by decide) (ga:=a') (gc:=c') (rows:=l'.map bL.cells) (by rw [List.length_map];rfl) (by rw [List.length_map];exact p9.o) rfl HB.o rfl (by intro u hu;simp only [bL.cells,List.mem_cons,List.not_mem_nil,or_false]at hu;rcases hu with rfl|rfl|rfl<;>rfl) (by rw [List.length_map];have:=KT.o;omega) eE.o.size ?_;intro g2 k2 W2 K mM hK x2;rw [List.length_map]at mM⊢;have o6:=ae mM;have ez:=ae (x2.ext eE.o hK.o.1);clear mM hK x2))
      have hz2:(l'++ [mv]).length=l'.length+1:=by simp
      exact ⟨⟨j+1,g2,k2,l'++ [mv],by omega,by omega,fun m hm=>by
       rcases List.mem_append.1 hm with e|e
       ·exact HI.o m e
       ·rw [List.mem_singleton]at e;rw [e];exact HM6.o,by rw [hz2],by rw [hz2,List.map_append];exact o6.o,ez.o,by go_num⟩,by simp only [intOf];omega⟩
     ·go_wp2_with fail
      exact ⟨⟨j+1,a',c',l',by omega,by omega,HI.o,rfl,HO.o,HX.o,by go_num⟩,by simp only [intOf];omega⟩
    ·obtain rfl:j=b.moves.length:=by omega
     obtain ⟨ra,rc,kK,su,-⟩:=HO.o.recs (by decide);rw [List.length_map]at kK;simp only [Value.slice.injEq,true_and]at kK;obtain ⟨rfl,rfl⟩:=kK;have hf:=HU.o.fresh HX.o (js HO.o);obtain ⟨g2,hg2,f3,-,hcut⟩:=oD.o wr HX.o a' c' l' ⟨su,HI.o⟩ hf.1 hf.2 (by have:=KT.o;omega);have e2:g2=g:=by rw [HG.o]at hg2;cases hg2;rfl
     subst e2;have HCT:=ae hcut;clear hcut hf su hg2;go_wp2_with fail
     exact ⟨⟨k+1,by omega,HCT.o.trans uM.o kg.o,by go_num⟩,by simp only [intOf];omega⟩
  ·obtain rfl:k=c1.outs.length:=by omega
   go_upto_region 13 with fail
   have mH: ∀j v,([i64 d.hours,.slice d.ra d.aA.length d.rc,.slice d.ba d.aj.length d.bc,.slice d.la d.lines.length d.lc,.slice d.ua d.aq.length d.uc,.slice d.sa d.stores.length d.sc,.slice d.ta d.aB.length d.tc,.slice d.oa d.outs.length d.oc])[j]?=some v→wr.cell? ((⟨B,0,none⟩:Addr).add j)=some v:=fun j v hj=>by rw [cF,HU.o.box.cell j];exact hj
   have DV:=HU.o.res;go_wp2_with (first|(refine aT rfl 32 _ rfl ⟨B,0,none⟩ rfl [i64 d.hours,.slice d.ra d.aA.length d.rc,.slice d.ba d.aj.length d.bc,.slice d.la d.lines.length d.lc,.slice d.ua d.aq.length d.uc,.slice d.sa d.stores.length d.sc,.slice d.ta d.aB.length d.tc,.slice d.oa d.outs.length d.oc] _ mH rfl rfl (by kernel_rfl) ?_)|(refine bp rfl 32 _ _ rfl R lS.cells [i64 d.hours,.slice d.ra d.aA.length d.rc,.slice d.ba d.aj.length d.bc,.slice d.la d.lines.length d.lc,.slice d.ua d.aq.length d.uc,.slice d.sa d.stores.length d.sc,.slice d.ta d.aB.length d.tc,.slice d.oa d.outs.length d.oc] DV rfl rfl (by kernel_rfl) rfl rfl ?_;intro qO kZ dI))
   have U9:=HU.o;have C9:=U9.cs.but dI (by simp) U9.pos.2.1;refine bodyPost_ret (v:= .agg ([i64 d.hours,.slice d.ra d.aA.length d.rc,.slice d.ba d.aj.length d.bc,.slice d.la d.lines.length d.lc,.slice d.ua d.aq.length d.uc,.slice d.sa d.stores.length d.sc,.slice d.ta d.aB.length d.tc,.slice d.oa d.outs.length d.oc]).toArray) (fL 2 _ rfl rfl kZ rfl rfl (by kernel_rfl)) rfl ⟨d,rfl,⟨C9.ci,C9.sp,C9.bl.mono fun b hb=>⟨hb.1,hb.2.1,fun m=>hb.2.2 (List.mem_cons_of_mem _ (List.mem_cons_of_mem _ m))⟩,C9.ext⟩,U9.iK,?_,?_,?_,U9.far.but dI fun b hb _=>by have:=U9.kb;omega⟩
   ·rw [uM.o,sO.o.1]
   ·rw [kg.o.2.2.1,sO.o.2];exact nW.o.1
   ·rw [←nW.o.1,←sO.o.1];exact kg.o
section
variable{P:Program} {ops:Array Oper} {Q:Exit→Act→World→Prop} {rest:List Oper} {o:Oper} {a:Act} {w:World}
theorem zT (s x:Operand) (t e:TypeId) (z:Value) (size bytes:Nat) (hgd:o.guard=none) (ho:o.op= .call {callee:= .builtin .append,args:= #[s,x],argTypes:= #[t,t]})
 (ht:P.underlying t=some (.slice e)) (iL:(P.info? e).map (fun i=>(i.zero,i.size,i.bytes))=some (some z,size,bytes)) (hzs:z.cells.size=size) (hsz:0<size) (hby:bytes≤100)
 {D:Nat} {ga:Option Addr} {gc:Nat} {rows:List (List Value)} (hs:a.eval s= .slice ga rows.length gc) (own:aJ w D e size (.slice ga rows.length gc) rows)
 {B:Nat} {r:List Value} (hx:a.eval x= .slice (some ⟨B,0,none⟩) 1 1) (hB:aQ w B e r) (hr:r.length=size) (h1: ∀u∈r,u.oneCell'=true) (h63:rows.length≤1100000000000) (hD:D≤w.heap.size)
 (h: ∀g2 k2 w' K,aJ w' D e size (.slice g2 (rows.length+1) k2) (rows++ [r])→Hid (D≤K∧(K=w.heap.size∨ ∃q,ga=some q∧q.block=K))→ar K w w'→Hid (∀q,g2=some q→(∃q0,ga=some q0∧q.block=q0.block)∨w.heap.size≤q.block)→wpList P ops Q rest (a.put o.dst (.slice g2 (rows.length+1) k2)) w'):wpList P ops Q (o::rest) a w:=by
 refine bn _ hgd s x t ho D e z size bytes ht iL hzs hsz _ rows.length rows.flatten hs own.own (some ⟨B,0,none⟩) 1 1 r hx (by omega) (fun _=>⟨_,rfl,fun j u hj=> ?_⟩) h1 (fun e=>by cases e) (by omega) hby hD ?_
 ·rw [cF,hB.cell];exact hj
 intro v1 w5 ho he hb hz hv;obtain ⟨g2,k2,rfl⟩:=fg ho.o;obtain ⟨K,M9,Lr,hKx⟩:=jM (base:=D) (v:= .slice ga rows.length gc) hD (fun k q=>(own.own.lt k q).1) he.o hb.o hz.o;refine h g2 k2 w5 K (own.snoc hr ho.o) ⟨M9,?_⟩ hKx fun q hq=> ?_
 ·rcases Lr with q|q
  ·exact .inl q
  ·cases ga with
   |none=>cases q
   |some q'=>exact .inr ⟨q',rfl,by have e2:some q'.block=some K:=q;cases e2;rfl⟩
 ·subst hq
  rcases hv.o with e1|⟨g,e1,e2⟩
  ·cases ga with
   |none=>cases e1
   |some q'=>exact .inl ⟨q',rfl,by have e3:some q.block=some q'.block:=e1;exact Option.some.inj e3⟩
  ·have e3:some q.block=some g:=e1
   cases e3;exact .inr e2
end
theorem CS.JG {V w0 w:World} {N:List Nat} {c:ai} (h:CS V w0 N c) (x:Ext w0 w) (hN: ∀b∈N,b<w0.heap.size) {l':List aS} (kL: ∀y∈l',y∈c.lines) {ga:Option Addr} {gc:Nat} (own:aJ w w0.heap.size 78 12 (.slice ga l'.length gc) (l'.map aS.cells)):
 CS V w N {c with la:=ga,lc:=gc,lines:=l'}:=by
 have H:=h.grow x;have hg:=js own;have hV:=h.ext.size;obtain ⟨ra,rc,kK,su,-⟩:=own.recs (by decide);rw [List.length_map]at kK;simp only [Value.slice.injEq,true_and]at kK;obtain ⟨rfl,rfl⟩:=kK;have ho: ∀q,eZ {c with la:=ga,lc:=gc,lines:=l'} q→eZ c q∨ga=some q:=fun q hq=>by rcases hq with e|e|e|e|e|e<;>first|exact .inl (.inl e)|exact .inr e|exact .inl (.inr (.inr (.inl e)))|exact .inl (.inr (.inr (.inr (.inl e))))|exact .inl (.inr (.inr (.inr (.inr (.inl e)))))|exact .inl (.inr (.inr (.inr (.inr (.inr e)))))
 have hJ:=kj (D:=w0.heap.size) H.sp.off (h.bl.mono fun b hb=>hb.2.1) (fun q e=>(hg q e).1) ho
 have hq:bT (fun b=>V.heap.size≤b∧b<w.heap.size∧b∉N) ga:=fun p e=>by
  have:=hg p e;exact ⟨by omega,this.2,fun m=>by have:=hN _ m;omega⟩
 exact ⟨{H.ci with lines:=su,line:=fun y hy=>H.ci.line y (kL y hy)},{H.sp with la:=iU.of own,off:={hJ with line:=fun y hy=>hJ.line y (kL y hy)}},{H.bl with lines:=hq,line:=fun y hy=>H.bl.line y (kL y hy)},H.ext⟩
theorem CS.LV {V w0 w:World} {N:List Nat} {c:ai} (h:CS V w0 N c) (x:Ext w0 w) (hN: ∀b∈N,b<w0.heap.size) {os:List aY} {ga:Option Addr} {gc:Nat} (own:aJ w w0.heap.size 87 4 (.slice ga os.length gc) (os.map aY.cells))
 (Nn: ∀y∈os,y.name.size≤maxLen∧aI w y.la y.lc y.lines∧(∀p,y.la=some p→w0.heap.size≤p.block∧p.block<w.heap.size∧ ∀q,ga=some q→p.block≠q.block)∧ ∃z∈c.outs,y.ma=z.ma∧y.mc=z.mc∧y.moves=z.moves):
 CS V w N {c with oa:=ga,oc:=gc,outs:=os}:=by
 have H:=h.grow x;have hg:=js own;have hV:=h.ext.size;obtain ⟨ra,rc,kK,su,-⟩:=own.recs (by decide);rw [List.length_map]at kK;simp only [Value.slice.injEq,true_and]at kK;obtain ⟨rfl,rfl⟩:=kK;have ho: ∀q,eZ {c with oa:=ga,oc:=gc,outs:=os} q→eZ c q∨ga=some q:=fun q hq=>by rcases hq with e|e|e|e|e|e<;>first|exact .inl (.inl e)|exact .inl (.inr (.inl e))|exact .inl (.inr (.inr (.inl e)))|exact .inl (.inr (.inr (.inr (.inl e))))|exact .inl (.inr (.inr (.inr (.inr (.inl e)))))|exact .inr e
 have hJ:=kj (D:=w0.heap.size) H.sp.off (h.bl.mono fun b hb=>hb.2.1) (fun q e=>(hg q e).1) ho
 have hq:bT (fun b=>V.heap.size≤b∧b<w.heap.size∧b∉N) ga:=fun p e=>by
  have:=hg p e;exact ⟨by omega,this.2,fun m=>by have:=hN _ m;omega⟩
 refine ⟨{H.ci with outs:=su,o:=fun y hy=> ?_},{H.sp with oa:=iU.of own,off:={hJ with o:=fun y hy=>⟨fun p e q hq=> ?_,?_⟩}},{H.bl with outs:=hq,o:=fun y hy=>⟨fun p e=> ?_,?_⟩},H.ext⟩
 ·obtain ⟨h1,h2,h3,z,hz,e1,e2,e3⟩:=Nn y hy
  have q:=H.ci.o z hz;rw [e1,e2,e3];exact ⟨h1,h2,q.2.2⟩
 ·obtain ⟨h1,h2,h3,-⟩:=Nn y hy
  have h4:=h3 p e;rcases ho q hq with e5|e5
  ·have:=(h.bl.outer q e5).2.1;omega
  ·exact h4.2.2 q e5
 ·obtain ⟨h1,h2,h3,z,hz,e1,e2,e3⟩:=Nn y hy
  rw [e1];exact (hJ.o z hz).2
 ·obtain ⟨h1,h2,h3,-⟩:=Nn y hy
  have h4:=h3 p e;exact ⟨by omega,h4.2.1,fun m=>by have:=hN _ m;omega⟩
 ·obtain ⟨h1,h2,h3,z,hz,e1,e2,e3⟩:=Nn y hy
  rw [e1];exact (H.bl.o z hz).2
def mN (c:ai) (D:Nat) (ga:Option Addr) (w:World) (y:aY):Prop:=(y.name.size≤maxLen∧aI w y.la y.lc y.lines∧(∀p,y.la=some p→D≤p.block∧p.block<w.heap.size∧ ∀q,ga=some q→p.block≠q.block)∧ ∃z∈c.outs,y.ma=z.ma∧y.mc=z.mc∧y.moves=z.moves)∧y.lines.length≤100
theorem mN.next {c:ai} {D K:Nat} {ga:Option Addr} {w w':World} {y:aY} (h:mN c D ga w y) (x:ar K w w') (hK:bT (fun b=>b≠K) y.la):mN c D ga w' y:=
 ⟨⟨h.1.1,h.1.2.1.dC x hK,fun p e=>⟨(h.1.2.2.1 p e).1,Nat.lt_of_lt_of_le (h.1.2.2.1 p e).2.1 x.size,(h.1.2.2.1 p e).2.2⟩,h.1.2.2.2⟩,h.2⟩
theorem mN.grow {c:ai} {D:Nat} {ga:Option Addr} {w w':World} {y:aY} (h:mN c D ga w y) (x:Ext w w'):mN c D ga w' y:=
 h.next (x.but w.heap.size) fun p e=>by have:=(h.1.2.2.1 p e).2.1;show p.block≠_;omega
theorem mN.re {c:ai} {D K:Nat} {ga g2:Option Addr} {w w':World} {y:aY} (h:mN c D ga w y) (x:ar K w w') (hK:K=w.heap.size∨ ∃q,ga=some q∧q.block=K) (hg: ∀q,g2=some q→(∃q0,ga=some q0∧q.block=q0.block)∨w.heap.size≤q.block):mN c D g2 w' y:=by
 have h1:=h.next x fun p e=>by
  have h2:=h.1.2.2.1 p e;show p.block≠K;rcases hK with q|⟨q,q1,q2⟩
  ·omega
  ·have:=h2.2.2 q q1;omega
 refine ⟨⟨h1.1.1,h1.1.2.1,fun p e=>⟨(h1.1.2.2.1 p e).1,(h1.1.2.2.1 p e).2.1,fun q hq=> ?_⟩,h1.1.2.2.2⟩,h1.2⟩;have h2:=h.1.2.2.1 p e;rcases hg q hq with⟨q0,q1,q2⟩|q1
 ·have:=h2.2.2 q0 q1;omega
 ·omega
theorem tT (V w:World) (c:ai) (ln:Nat) (N:List Nat) (h:CS V w N c) (hN: ∀b∈N,b<w.heap.size) (hs:vN c) (IE:ln<c.lines.length):
 Calls prog 49 #[.agg (C8 c),.int .i64 (ln:Int)] w fun e w'=> ∃d,e= .returned (.agg d.cells.toArray)∧CS V w' N d∧vN d∧d.hours=c.hours∧d.lines.length=c.lines.length-1∧d.outs.length≤c.outs.length∧(d.aj.length=c.aj.length∧d.aq.length=c.aq.length∧d.stores.length=c.stores.length∧d.aB.length=c.aB.length)∧uq w c w' d:=by
 try unfold C8
 have jD:=ae hN;have H:=ae h;have HS:=ae hs;have lD:=ae IE
 clear h hN hs IE;go_enter func49,ntmps49
 go_upto_region 1 with fail
 generalize hW:World.alloc w _=W;generalize hW2:World.alloc W _=W2;obtain ⟨B,R,hB,hR,U0⟩:=zR H.o jD.o HS.o hW hW2;rw [←hB,hR];have HU:=ae U0;clear hW hB hW2 hR H
 obtain ⟨g,hg⟩: ∃g,c.la=some ⟨g,0,none⟩:=by
  obtain ⟨b,o,e,-⟩:=U0.cs.ci.lines.cell 0 (by rw [List.length_map];have:=lD.o;omega);obtain ⟨g,cur,e2,-⟩:=U0.cs.sp.la _ e;rw [e2]at e;exact ⟨g,e⟩
 have k3:W2.cell? ⟨B,3,none⟩=some (.slice (some ⟨g,0,none⟩) c.lines.length c.lc):=by rw [←hg];exact (U0.box.cell 3).trans rfl
 have hle:=U0.cs.ci.lines.le;have dQ:=U0.cs.ci.lines.cap
 rw [List.length_map]at hle;have b0:(0:Int)≤(ln:Int):=by omega
 have b1:(ln:Int)≤(c.lc:Int):=by have:=lD.o;omega
 have b2:(0:Int)≤(ln:Int)+1:=by omega
 have b3:(ln:Int)+1≤(c.lines.length:Int):=by have:=lD.o;omega
 obtain ⟨ad,had,S4⟩: ∃ad,(if c.lc=ln+1 then some (⟨g,0,none⟩:Addr)else some ⟨g,(ln+1)*12,none⟩)=some ad∧(c.lc≠ln+1→ad=⟨g,(ln+1)*12,none⟩):=by
  by_cases q:c.lc=ln+1
  ·exact ⟨_,by rw [if_pos q],fun e=>absurd q e⟩
  ·exact ⟨_,by rw [if_neg q],fun _=>rfl⟩
 have HAD:=ae S4;have q1:IntKind.i64.wrap ((ln:Int)+1)=((ln+1:Nat):Int):=by rw [IntKind.wrap_i64];omega
 have HG:=ae hg;replace HU:=ae (HU.o.grow (Ext.refl W2).drew);clear U0 hg S4;refine yG (fun j=>j==13) (fun _=>True) (fun w=>w.cell? ⟨B,3,none⟩=some (.slice (some ⟨g,0,none⟩) c.lines.length c.lc)) trivial k3 fun s r=> ?_;generalize W2.drew=Y at*;iterate 4 refine yR 1 s r ?_
 iterate 5 refine yR 2 s r ?_
 refine yC 0 fun K' hK=> ?_;go_simp;obtain ⟨Y1,Fp⟩: ∃Y1,Y1=Y.alloc (.cells #[] 78):=⟨_,rfl⟩;have x1:Ext Y Y1:=by rw [Fp];exact (Ext.refl Y).alloc _
 obtain ⟨D,hD⟩: ∃D,D=Y.heap.size:=⟨_,rfl⟩;have p9:Hid (Y1.ownsRow D 78 12 (.slice (some ⟨D,0,none⟩) 0 0) 0 []):=by rw [Fp,hD];exact ownsRow_lit Y _ 12
 rw [←Fp,←hD];have HD:=ae hD;have X1:=ae x1
 have hz1:D≤Y1.heap.size:=by rw [hD];exact x1.size
 refine hK.o _ _ trivial (ak x1 r) fun s r=> ?_;clear hK Fp hD x1 k3
 have Qb: ∀l:List aS,∀u∈(l.map aS.cells).flatten,u.oneCell'=true:=fun l u hu=>by
  obtain ⟨y,hy,Ru⟩:=List.mem_flatten.1 hu;obtain ⟨z,-,rfl⟩:=List.mem_map.1 hy;simp only [aS.cells,List.mem_cons,List.not_mem_nil,or_false]at Ru;rcases Ru with rfl|rfl|rfl|rfl|rfl|rfl|rfl|rfl|rfl|rfl|rfl|rfl<;>rfl
 have UK: ∀l:List aS,∀r∈l.map aS.cells,r.length=12:=fun l r hr=>by obtain ⟨y,-,rfl⟩:=List.mem_map.1 hr;rfl
 have pJ: ∀l:List aS,(l.map aS.cells).flatten.length=l.length*12:=fun l=>by rw [gC _ (UK l),List.length_map]
 have Qq:=HS.o.small;have hR: ∀Z,Ext Y Z→bH Z 12 (some ⟨g,0,none⟩) c.lc (c.lines.map aS.cells):=fun Z x=>by rw [←HG.o];exact (HU.o.grow x).cs.ci.lines
 have Bg:Hid (∀Z,Ext Y Z→Z.cell? ⟨B,3,none⟩=some (.slice (some ⟨g,0,none⟩) c.lines.length c.lc)):=fun Z x=>by rw [←HG.o];exact ((HU.o.box.ext x).cell 3).trans rfl
 have HR:=ae hR;have GI:=ae Qb;have Vw:=ae UK;have nS:=ae pJ;have I2:=ae Qq
 clear Qb UK pJ Qq hR;refine yC 5 fun K' hK=> ?_;rw [if_pos (by rfl)];refine eH _ _ _ 26 rfl D 78 (.agg kG.cells.toArray) 12 120 underlying26 Tryz.info_line rfl (by decide) (.slice (some ⟨D,0,none⟩) 0 0) 0 [] rfl p9.o (some ⟨g,0,none⟩) ln c.lc ((c.lines.take ln).map aS.cells).flatten rfl ?l1 ?n1 (GI.o _) (fun e=>by cases e) ?h1 (by decide) hz1 ?_
 case l1=>rw [nS.o,List.length_take];have:=lD.o;congr 1;omega
 case n1=>
  intro a' ha j u hu;have h5:=(HR.o Y1 X1.o).take ln;rw [←List.map_take]at h5;exact h5.flat (by decide) (Vw.o _) a' ha j u hu
 case h1=>have:=lD.o;have:=I2.o;omega
 intro v1 w5 ho he hb hz hv;have S5:((c.lines.take ln).map aS.cells).length=ln:=by rw [List.length_map,List.length_take];have:=lD.o;omega
 have HO5:Hid (aJ w5 D 78 12 v1 ((c.lines.take ln).map aS.cells)):=by
  refine ⟨?_,Vw.o _⟩;have h5:=ho.o;rw [Nat.zero_add,List.nil_append]at h5;rw [S5];exact h5
 have X5:=ae (he.o Y X1.o (Nat.le_of_eq HD.o.symm));have M8:D≤w5.heap.size:=by have:=hz.o;omega
 refine hK.o _ _ trivial (Bg.o _ X5.o) fun s r=> ?_;clear hK ho he hb hz hv;refine yC 11 fun K' hK=> ?_;rw [if_pos (by rfl)];refine eH _ _ _ 26 rfl D 78 (.agg kG.cells.toArray) 12 120 underlying26 Tryz.info_line rfl (by decide) v1 ln ((c.lines.take ln).map aS.cells).flatten rfl ?o2 (some ad) (c.lines.length-(ln+1)) (c.lc-(ln+1)) ((c.lines.drop (ln+1)).map aS.cells).flatten rfl ?l1 ?n1 (GI.o _) (fun e=>by cases e) ?h1 (by decide) M8 ?_
 case o2=>have h5:=HO5.o.own;rw [S5]at h5;exact h5
 case l1=>rw [nS.o,List.length_drop]
 case n1=>
  intro a' ha j u hu;cases ha
  have hj:=(List.getElem?_eq_some_iff.1 hu).1;rw [nS.o,List.length_drop]at hj;have xc:=(HR.o w5 X5.o).le;rw [List.length_map]at xc;rw [HAD.o (by omega)]
  have h5:bH w5 12 (some ⟨g,(ln+1)*12,none⟩) (c.lc-(ln+1)) ((c.lines.drop (ln+1)).map aS.cells):=by
   refine ⟨by rw [List.length_map,List.length_drop];omega,by have:=(HR.o w5 X5.o).cap;omega,fun i hi=>⟨g,_,rfl,fun l hl=> ?_⟩⟩;rw [List.length_map,List.length_drop]at hi;obtain ⟨b,o,e,q⟩:=(HR.o w5 X5.o).cell (ln+1+i) (by rw [List.length_map];omega);cases e
   have e3:((c.lines.drop (ln+1)).map aS.cells)[i]'(by rw [List.length_map,List.length_drop];exact hi)=(c.lines.map aS.cells)[ln+1+i]'(by rw [List.length_map];omega):=by rw [List.getElem_map,List.getElem_map,List.getElem_drop]
   have hl2:l<((c.lines.map aS.cells)[ln+1+i]'(by rw [List.length_map];omega)).length:=by rw [←e3];exact hl
   have q2:=q l hl2;rw [Nat.zero_add,Nat.add_mul (ln+1) i 12]at q2;rw [q2];congr 1
   exact (List.getElem_of_eq e3.symm _)
  exact h5.flat (by decide) (Vw.o _) _ rfl j u hu
 case h1=>have:=I2.o;omega
 intro v2 w6 ho he hb hz hv
 have QA:Hid (aJ w6 D 78 12 v2 ((c.lines.take ln++c.lines.drop (ln+1)).map aS.cells)):=by
  refine ⟨?_,Vw.o _⟩;rw [List.length_map,List.length_append,List.length_take,List.length_drop,List.map_append,List.flatten_append,show min ln c.lines.length=ln by have:=lD.o;omega];exact ho.o
 have X6:=ae (he.o Y X5.o (Nat.le_of_eq HD.o.symm));refine hK.o _ _ trivial (Bg.o _ X6.o) fun s r=> ?_;obtain ⟨ga,gc,hv2⟩:=fg QA.o.own;subst hv2;obtain ⟨l',hl'⟩: ∃l',l'=c.lines.take ln++c.lines.drop (ln+1):=⟨_,rfl⟩;rw [←hl']at QA⊢;rw [List.length_map]at QA⊢
 have kn:Hid (l'.length=c.lines.length-1∧ ∀y∈l',y∈c.lines):=by
  rw [hl'];refine ⟨by rw [List.length_append,List.length_take,List.length_drop];have:=lD.o;omega,fun y hy=> ?_⟩;rcases List.mem_append.1 hy with e|e
  ·exact List.mem_of_mem_take e
  ·exact List.mem_of_mem_drop e
 clear hK ho he hb hz hv hl' HO5 X5 p9 X1 HR S5 M8 hz1;refine yT 0 s r ?_;refine yZ 13 fun K' hK=> ?_;have f3:=(HU.o.box.ext X6.o).frozen 3;go_simp
 have U6:Hid (iW V w c N (w6.setCell ⟨B,3,none⟩ (.slice ga l'.length gc)) B R {c with la:=ga,lc:=gc,lines:=l'}):=by
  have U:=HU.o;have hbl:=U.box.lt;have OC:=U.res.lt
  have C6:=U.cs.JG X6.o (fun b hb=>by
   rcases List.mem_cons.1 hb with rfl|hb
   ·exact hbl
   rcases List.mem_cons.1 hb with rfl|hb
   ·exact OC
   ·have:=U.nb _ hb;have:=U.far.2.2;omega) kn.o.2 (by rw [←HD.o];exact QA.o)
  have hx:=(ar.refl B w6).eL (o:=3) (v:= .slice ga l'.length gc);have hs:=U.iK;have hgo:=js QA.o
  have tk:uq w c (w6.setCell ⟨B,3,none⟩ (.slice ga l'.length gc)) {c with la:=ga,lc:=gc,lines:=l'}:=by
   have q:=(U.far.grow X6.o).but hx fun b hb _=>by have:=U.kb;omega
   refine ⟨q.1,fun p hp=> ?_,q.2.2⟩;have hd:=HD.o;have h0:=U.far.2.2
   rcases hp with e|e|e|e|e|e
   ·exact .inl (.inl e)
   ·exact .inr (by have:=hgo p e;omega)
   ·exact .inl (.inr (.inr (.inl e)))
   ·exact .inl (.inr (.inr (.inr (.inl e))))
   ·exact .inl (.inr (.inr (.inr (.inr (.inl e)))))
   ·exact .inl (.inr (.inr (.inr (.inr (.inr e)))))
  refine ⟨C6.but hx (by simp) U.pos.1,(U.box.ext X6.o).set 3 _,(U.res.ext X6.o).but hx (Ne.symm U.pos.2.2),{hs with line:=fun y hy=>hs.line y (kn.o.2 y hy),small:= ?_},U.pos,tk,U.kb,U.nb⟩;have:=hs.small;have:=kn.o.1;simp only;omega
 generalize w6.setCell ⟨B,3,none⟩ (.slice ga l'.length gc)=w7 at*;refine hK.o _ _ trivial fun s=> ?_;clear hK r f3 HU QA X6 s;refine yD ?_;obtain ⟨c1,hc1⟩: ∃c1,c1={c with la:=ga,lc:=gc,lines:=l'}:=⟨_,rfl⟩;rw [←hc1]at U6;have sO:Hid (c1.hours=c.hours∧c1.lines.length=c.lines.length-1∧c1.outs.length=c.outs.length∧(c1.aj.length=c.aj.length∧c1.aq.length=c.aq.length∧c1.stores.length=c.stores.length∧c1.aB.length=c.aB.length)):=by rw [hc1];exact ⟨rfl,kn.o.1,rfl,rfl,rfl,rfl,rfl⟩
 clear hc1 kn;have yu:Hid (∃D7,D7=w7.heap.size):=⟨_,rfl⟩;obtain ⟨D7,hD7⟩:=yu.o;have yu:=ae hD7;clear hD7;go_wp2_with fail
 go_loopw [5,6] (fun lv kv wr=> ∃(k:Nat) (os:List aY) (ga:Option Addr) (gc:Nat),k≤c1.outs.length∧os.length≤k∧lv= .slice ga os.length gc∧aJ wr D7 87 4 (.slice ga os.length gc) (os.map aY.cells)∧Ext w7 wr∧(∀y∈os,mN c1 D7 ga wr y)∧kv= .int .i64 (k:Int)) (fun _ kv _=>c1.outs.length-(intOf kv).toNat)
 case atStart=>exact ⟨0,[],none,0,Nat.zero_le _,Nat.le_refl _,rfl,aJ.nil _ _ _ _,Ext.refl _,(fun y hy=>by cases hy),rfl⟩
 case round=>
  obtain ⟨k,os,ga,gc,hk,Vx,rfl,hown,hx,pY,rfl⟩:=hrel;have HO:=ae hown;have HX:=ae hx;have LW:=ae pY
  have H9:=ae (U6.o.grow hx);obtain ⟨k0,k1,k2,k3,k4,k5,k6,k7⟩:=ai.at H9.o.box;have BU:=H9.o.cs.ci.outs.le;have Nl:=H9.o.cs.ci.outs.cap
  rw [List.length_map]at BU;clear hown hx pY;by_cases hlt:k<c1.outs.length
  ·have CY:(0:Int)≤(k:Int):=by omega
   have CZ:(k:Int)<(c1.outs.length:Int):=by omega
   have q1:IntKind.i64.wrap ((k:Int)+1)=((k+1:Nat):Int):=by rw [IntKind.wrap_i64];omega
   obtain ⟨g,hg⟩:=H9.o.cs.Fm (by omega);have zS:=H9.o.cs.ci.o _ (List.getElem_mem hlt);have LS:=H9.o.iK.o _ (List.getElem_mem hlt);have S7:=List.getElem_mem hlt
   have hcell: ∀l,(hl:l<4)→wr.cell? ⟨g,k*4+l,none⟩=some (c1.outs[k].cells[l]'hl):=fun l hl=>by
    obtain ⟨b,o,e,q⟩:=H9.o.cs.ci.outs.cell k (by rw [List.length_map];exact hlt);rw [hg]at e;cases e
    have q2:=q l (by rw [List.getElem_map];exact hl);rw [Nat.zero_add]at q2;refine q2.trans ?_;congr 1
    exact (List.getElem_of_eq (List.getElem_map ..) _)
   rw [hg]at k7;have uk:=ae zS;have KT:=ae LS;have Yw:=ae S7
   generalize c1.outs[k]=z at*;have z0:wr.cell? ⟨g,k*4,none⟩=some (.string z.name):=hcell 0 (by decide);have z1:wr.cell? ⟨g,k*4+1,none⟩=some (.slice z.la z.lines.length z.lc):=hcell 1 (by decide);have z2:wr.cell? ⟨g,k*4+2,none⟩=some (.bool z.bI):=hcell 2 (by decide);have z3:wr.cell? ⟨g,k*4+3,none⟩=some (.slice z.ma z.moves.length z.mc):=hcell 3 (by decide);clear zS LS S7 hg hcell;go_upto_region 7 with fail
   generalize S8:World.alloc wr _=w8;obtain ⟨X,hX,x8,A8⟩:=bX S8;rw [←hX];have Ji:wr.heap.size=X:=hX.symm;have Gn:=ae A8;have Qk:=ae x8;have vu:=ae Ji
   clear S8 hX x8 A8 z0 z1 z2 z3 Ji k0 k1 k2 k3 k4 k5 k6 k7;have Yx:Hid (X<w8.heap.size∧D7≤X):=by have h1:=Gn.o.lt;have h2:=HX.o.size;have h3:=yu.o;have h4:=vu.o;show _∧_;omega
   have Vy:=ae (uk.o.2.1.ext Qk.o);have hzl:=Vy.o.le;have hzc:=Vy.o.cap
   go_wp2_with fail
   go_loopw [8,9,10] (fun bv lv jv wr=> ∃(j:Nat) (hb:Bool) (ea:Option Addr) (ec:Nat) (l':List Int),j≤z.lines.length∧l'.length≤j∧(∀y∈l',bB y)∧bv= .bool hb∧lv= .slice ea l'.length ec∧aJ wr w8.heap.size 3 1 (.slice ea l'.length ec) (fK l')∧Ext w8 wr∧jv= .int .i64 (j:Int)) (fun _ _ jv _=>z.lines.length-(intOf jv).toNat)
   case atStart=>exact ⟨0,false,none,0,[],Nat.zero_le _,Nat.le_refl _,(fun y hy=>by cases hy),rfl,rfl,aJ.nil _ _ _ _,Ext.refl _,rfl⟩
   case round=>
    obtain ⟨j,hb,ea,ec,l',hj,wM,hl2,rfl,rfl,hown,hx,rfl⟩:=hrel;have Fq:=ae hown;have Jg:=ae hx;have Hz:=ae hl2
    have x1:wr.cell? ⟨X,1,none⟩=some (.slice z.la z.lines.length z.lc):=ak hx ((Gn.o.cell 1).trans rfl);clear hown hx hl2;by_cases yY:j<z.lines.length
    ·have NZ:(0:Int)≤(j:Int):=by omega
     have N1:(j:Int)<(z.lines.length:Int):=by omega
     have q2:IntKind.i64.wrap ((j:Int)+1)=((j+1:Nat):Int):=by rw [IntKind.wrap_i64];have:=KT.o;omega
     obtain ⟨lb,lo,OO,hlc⟩:=(Vy.o.ext Jg.o).cell j yY;have QB:=Vy.o.NV j yY;obtain ⟨y,hy⟩: ∃y,y=z.lines[j]:=⟨_,rfl⟩;rw [←hy]at hlc QB;rw [OO]at x1;have Yy:Hid (bB y):=QB;clear hy OO QB;go_upto_region 11 with fail
     go_cut [8] (fun v wx=>(∃b:Bool,v= .bool b)∧wx=wr)
     case first=>
      as_aux_lemma=>
       cases hb with
       |true=>
        go_wp2_with fail
        go_meet
        exact ⟨⟨true,rfl⟩,rfl⟩
       |false=>
        go_wp2_with fail
        go_meet
        exact ⟨⟨_,rfl⟩,rfl⟩
     case rest=>
      obtain ⟨⟨bq,rfl⟩,rfl⟩:=hcut;by_cases Bk:(ln:Int)<y
      ·have q3:IntKind.i64.wrap (y-1)=y-1:=by rw [IntKind.wrap_i64];have:=Yy.o;unfold bB at this;omega
       have wX:Hid (bB (y-1)):=by have:=Yy.o;unfold bB at this;show _∧_;omega
       go_wp2_with (at_builtin;generalize hst:wpList _ _ _ _ _ _=G)
       subst hst;refine iw _ _ 22 3 (.int .i64 0) 1 8 rfl rfl underlying22 Tryz.info_int rfl (by decide) (by decide) (ga:=ea) (gc:=ec) (rows:=fK l') (by rw [bM];rfl) (by rw [bM];exact Fq.o.ext ((Ext.refl _).alloc _)) (r:= [i64 (y-1)]) rfl (aQ.alloc _ _ _) rfl (by intro u hu;rw [List.mem_singleton]at hu;subst hu;rfl) (by rw [bM];have:=KT.o;omega) (by have:=Jg.o.size;rw [World.size_alloc];omega) ?_;intro g2 k2 W9 K mM hK x9;rw [bM,←kJ]at mM;rw [bM];have o6:=ae mM;have ez:=ae (x9.ext (Jg.o.trans ((Ext.refl _).alloc _)) hK.o.1);clear mM hK x9;go_wp2_with fail
       have hz2:(l'++ [y-1]).length=l'.length+1:=by simp
       exact ⟨⟨j+1,bq,g2,k2,l'++ [y-1],by omega,by omega,(fun u hu=>by
        rcases List.mem_append.1 hu with e|e
        ·exact Hz.o u e
        ·rw [List.mem_singleton]at e;rw [e];exact wX.o),rfl,by rw [hz2],by rw [hz2];exact o6.o,ez.o,by go_num⟩,by simp only [intOf];omega⟩
      ·go_wp2_with (at_builtin;generalize hst:wpList _ _ _ _ _ _=G)
       subst hst;refine iw _ _ 22 3 (.int .i64 0) 1 8 rfl rfl underlying22 Tryz.info_int rfl (by decide) (by decide) (ga:=ea) (gc:=ec) (rows:=fK l') (by rw [bM];rfl) (by rw [bM];exact Fq.o.ext ((Ext.refl _).alloc _)) (r:= [i64 (y)]) rfl (aQ.alloc _ _ _) rfl (by intro u hu;rw [List.mem_singleton]at hu;subst hu;rfl) (by rw [bM];have:=KT.o;omega) (by have:=Jg.o.size;rw [World.size_alloc];omega) ?_;intro g2 k2 W9 K mM hK x9;rw [bM,←kJ]at mM;rw [bM];have o6:=ae mM;have ez:=ae (x9.ext (Jg.o.trans ((Ext.refl _).alloc _)) hK.o.1);clear mM hK x9;go_wp2_with fail
       have hz2:(l'++ [y]).length=l'.length+1:=by simp
       exact ⟨⟨j+1,bq,g2,k2,l'++ [y],by omega,by omega,(fun u hu=>by
        rcases List.mem_append.1 hu with e|e
        ·exact Hz.o u e
        ·rw [List.mem_singleton]at e;rw [e];exact Yy.o),rfl,by rw [hz2],by rw [hz2];exact o6.o,ez.o,by go_num⟩,by simp only [intOf];omega⟩
    ·obtain rfl:j=z.lines.length:=by omega
     have hx:=(ar.refl X wr).eL (o:=1) (v:= .slice ea l'.length ec);have xx:=Qk.o.trans Jg.o;have E5:=js HO.o;have LX:=js Fq.o;have mj:=Gn.o.ext Jg.o;have zU:=ae (mj.set 1 (.slice ea l'.length ec));have f1:=mj.frozen 1;have p9:Hid (aJ (wr.setCell ⟨X,1,none⟩ (.slice ea l'.length ec)) D7 87 4 (.slice ga os.length gc) (os.map aY.cells)):=Fg (HO.o.ext xx) hx fun q e=>by have:=E5 q e;have:=vu.o;omega
     have S9:Hid (∀y∈os,mN c1 D7 ga (wr.setCell ⟨X,1,none⟩ (.slice ea l'.length ec)) y):=fun y hy=>((LW.o y hy).grow xx).next hx fun p e=>by have:=((LW.o y hy).1.2.2.1 p e).2.1;have:=vu.o;show p.block≠X;omega
     have Yz:Hid (Ext w7 (wr.setCell ⟨X,1,none⟩ (.slice ea l'.length ec))):=(HX.o.trans xx).setCell (by have:=vu.o;have:=HX.o.size;show w7.heap.size≤X;omega) _
     have hzn:mN c1 D7 ga (wr.setCell ⟨X,1,none⟩ (.slice ea l'.length ec)) {z with la:=ea,lc:=ec,lines:=l'}:=by
      refine ⟨⟨uk.o.1,(BQ Fq.o Hz.o).2.dC hx fun p e=> ?_,fun p e=>⟨?_,?_,fun q hq=> ?_⟩,z,Yw.o,rfl,rfl,rfl⟩,?_⟩
      ·have:=LX p e;have:=Yx.o;show p.block≠X;omega
      ·have:=LX p e;have:=Yx.o;omega
      ·have:=LX p e;have:=hx.size;omega
      ·have:=LX p e;have:=E5 q hq;have:=vu.o;have:=Yx.o;omega
      ·have:=KT.o;show l'.length≤100;omega
     have HZN:=ae hzn;have hsz:Hid (D7≤(wr.setCell ⟨X,1,none⟩ (.slice ea l'.length ec)).heap.size):=by have:=Yz.o.size;have:=yu.o;show _≤_;omega
     clear hx xx E5 LX mj hzn;have YA:hb=true∨hb=false:=by cases hb<;>simp
     rcases YA with rfl|rfl
     ·go_wp2_with fail
      exact ⟨⟨k+1,os,ga,gc,by omega,by omega,rfl,p9.o,Yz.o,S9.o,by go_num⟩,by simp only [intOf];omega⟩
     ·go_upto_region 17 with fail
      generalize wr.setCell ⟨X,1,none⟩ (.slice ea l'.length ec)=WX at*;have e0:=zU.o.cl 0 (.string z.name) rfl;have e1:=zU.o.cl 1 (.slice ea l'.length ec) rfl;have e2:=zU.o.cl 2 (.bool z.bI) rfl;have e3:=zU.o.cl 3 (.slice z.ma z.moves.length z.mc) rfl;go_wp2_with (refine gW rfl 30 _ rfl 87 (.agg kx.cells.toArray) 4 72 underlying30 Tryz.info_outage (by decide) (by decide) (({z with la:=ea,lc:=ec,lines:=l'}:aY).cells) rfl rfl ?_;intro W1 hB y1;generalize hst:wpList _ _ _ _ _ _=G)
      subst hst;refine zT _ _ 30 87 (.agg kx.cells.toArray) 4 72 rfl rfl underlying30 Tryz.info_outage rfl (by decide) (by decide) (ga:=ga) (gc:=gc) (rows:=os.map aY.cells) (by rw [List.length_map];rfl) (by rw [List.length_map];exact p9.o.ext y1) rfl hB rfl (by intro u hu;simp only [aY.cells,List.mem_cons,List.not_mem_nil,or_false]at hu;rcases hu with rfl|rfl|rfl|rfl<;>rfl) (by rw [List.length_map];have:=U6.o.iK.small;omega) (by have:=hsz.o;have:=y1.size;omega) ?_;intro g2 k2 W9 K mM hK y9 hg2;rw [List.length_map]at mM⊢;have o6:=ae mM;have ez:=ae (y9.ext (Yz.o.trans y1) (by have:=hK.o;have:=yu.o;omega))
      have YB:Hid (∀y∈os++ [({z with la:=ea,lc:=ec,lines:=l'}:aY)],mN c1 D7 g2 W9 y):=fun y hy=>by
       rcases List.mem_append.1 hy with e|e
       ·exact ((S9.o y e).grow y1).re y9 hK.o.2 hg2.o
       ·rw [List.mem_singleton]at e;subst e
        exact (HZN.o.grow y1).re y9 hK.o.2 hg2.o
      have hz2:(os++ [({z with la:=ea,lc:=ec,lines:=l'}:aY)]).length=os.length+1:=by simp
      clear mM hK y9 hg2 y1 hB e0 e1 e2 e3;go_wp2_with fail
      exact ⟨⟨k+1,os++ [({z with la:=ea,lc:=ec,lines:=l'}:aY)],g2,k2,by omega,by omega,by rw [hz2],by rw [hz2,List.map_append];exact o6.o,ez.o,YB.o,by go_num⟩,by simp only [intOf];omega⟩
  ·obtain rfl:k=c1.outs.length:=by omega
   have h7:=H9.o.box.cell 7;have f7:=H9.o.box.frozen 7;have hS:=U6.o.iK
   have C9:=U6.o.cs.LV HX.o (fun b hb=>by
    have h1:=U6.o.box.lt;have h2:=U6.o.res.lt
    rcases List.mem_cons.1 hb with rfl|hb
    ·exact h1
    rcases List.mem_cons.1 hb with rfl|hb
    ·exact h2
    ·have:=U6.o.nb _ hb;have:=U6.o.far.2.2;omega) (by rw [←yu.o];exact HO.o) (fun y hy=>by have h3:=(LW.o y hy).1;rw [yu.o]at h3;exact h3)
   have Vz:=(ar.refl B wr).eL (o:=7) (v:= .slice ga os.length gc)
   have U9:iW V w c N (wr.setCell ⟨B,7,none⟩ (.slice ga os.length gc)) B R {c1 with oa:=ga,oc:=gc,outs:=os}:=by
    have hgo:=js HO.o
    have tk:uq w c (wr.setCell ⟨B,7,none⟩ (.slice ga os.length gc)) {c1 with oa:=ga,oc:=gc,outs:=os}:=by
     have q:=H9.o.far.but Vz fun b hb _=>by have:=U6.o.kb;omega
     refine ⟨q.1,fun p hp=> ?_,q.2.2⟩;have hd:=yu.o;have h0:=U6.o.far.2.2
     rcases hp with e|e|e|e|e|e
     ·exact q.2.1 p (.inl e)
     ·exact q.2.1 p (.inr (.inl e))
     ·exact q.2.1 p (.inr (.inr (.inl e)))
     ·exact q.2.1 p (.inr (.inr (.inr (.inl e))))
     ·exact q.2.1 p (.inr (.inr (.inr (.inr (.inl e)))))
     ·exact .inr (by have:=hgo p e;omega)
    have hO: ∀y∈os,y.lines.length≤100∧y.moves.length≤100:=fun y hy=>by
     refine ⟨(LW.o y hy).2,?_⟩;obtain ⟨-,-,-,z,hz,e1,e2,e3⟩:=(LW.o y hy).1;rw [e3];exact (hS.o z hz).2
    exact ⟨C9.but Vz (by simp) U6.o.pos.1,H9.o.box.set 7 _,H9.o.res.but Vz (Ne.symm U6.o.pos.2.2),{hS with o:=hO,small:=by have:=hS.small;simp only at this⊢;omega},U6.o.pos,tk,U6.o.kb,U6.o.nb⟩
   have Qr:=ae U9;clear U9 C9 hS Vz;go_upto_region 19 with fail
   generalize wr.setCell ⟨B,7,none⟩ (.slice ga os.length gc)=wf at*;obtain ⟨d,hd⟩: ∃d,d={c1 with oa:=ga,oc:=gc,outs:=os}:=⟨_,rfl⟩;rw [←hd]at Qr
   have DX:Hid (d.hours=c.hours∧d.lines.length=c.lines.length-1∧d.outs.length≤c.outs.length∧(d.aj.length=c.aj.length∧d.aq.length=c.aq.length∧d.stores.length=c.stores.length∧d.aB.length=c.aB.length)):=by
    have h:=sO.o;rw [hd];exact ⟨h.1,h.2.1,by rw [←h.2.2.1];exact Vx,h.2.2.2⟩
   have mH: ∀j v,([i64 d.hours,.slice d.ra d.aA.length d.rc,.slice d.ba d.aj.length d.bc,.slice d.la d.lines.length d.lc,.slice d.ua d.aq.length d.uc,.slice d.sa d.stores.length d.sc,.slice d.ta d.aB.length d.tc,.slice d.oa d.outs.length d.oc])[j]?=some v→wf.cell? ((⟨B,0,none⟩:Addr).add j)=some v:=fun j v hj=>by rw [cF,Qr.o.box.cell j];exact hj
   have DV:=Qr.o.res;clear hd h7 f7;go_wp2_with (first|(refine aT rfl 32 _ rfl ⟨B,0,none⟩ rfl [i64 d.hours,.slice d.ra d.aA.length d.rc,.slice d.ba d.aj.length d.bc,.slice d.la d.lines.length d.lc,.slice d.ua d.aq.length d.uc,.slice d.sa d.stores.length d.sc,.slice d.ta d.aB.length d.tc,.slice d.oa d.outs.length d.oc] _ mH rfl rfl (by kernel_rfl) ?_)|(refine bp rfl 32 _ _ rfl R lS.cells [i64 d.hours,.slice d.ra d.aA.length d.rc,.slice d.ba d.aj.length d.bc,.slice d.la d.lines.length d.lc,.slice d.ua d.aq.length d.uc,.slice d.sa d.stores.length d.sc,.slice d.ta d.aB.length d.tc,.slice d.oa d.outs.length d.oc] DV rfl rfl (by kernel_rfl) rfl rfl ?_;intro qO kZ dI))
   have U9:=Qr.o;have C9:=U9.cs.but dI (by simp) U9.pos.2.1;exact bodyPost_ret (v:= .agg ([i64 d.hours,.slice d.ra d.aA.length d.rc,.slice d.ba d.aj.length d.bc,.slice d.la d.lines.length d.lc,.slice d.ua d.aq.length d.uc,.slice d.sa d.stores.length d.sc,.slice d.ta d.aB.length d.tc,.slice d.oa d.outs.length d.oc]).toArray) (fL 4 _ rfl rfl kZ rfl rfl (by kernel_rfl)) rfl ⟨d,rfl,⟨C9.ci,C9.sp,C9.bl.mono fun b hb=>⟨hb.1,hb.2.1,fun m=>hb.2.2 (List.mem_cons_of_mem _ (List.mem_cons_of_mem _ m))⟩,C9.ext⟩,U9.iK,DX.o.1,DX.o.2.1,DX.o.2.2.1,DX.o.2.2.2,U9.far.but dI fun b hb _=>by have:=U9.kb;omega⟩
end Go.Proofs.YtkpngkdgphojlaaGreat
