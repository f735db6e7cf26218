/- Texts of the proof. -/
import Derived.Test.YtkpngkdgphojlaaGreatCf31
set_option linter.all false
set_option maxHeartbeats 4000000
set_option maxRecDepth 100000
namespace Go.Proofs.YtkpngkdgphojlaaGreat
open Go.Proofs.Tryz
open Go.RowKit
theorem iW.aj {V w0 w:World} {c0:ai} {N:List Nat} {B R:Nat} {c:ai} (h:iW V w0 c0 N w B R c) (n:Nat) (hn:n≤c.aj.length):iW V w0 c0 N (w.setCell ⟨B,2,none⟩ (.slice c.ba n c.bc)) B R {c with aj:=c.aj.take n}:=by
 have hx:=(ar.refl B w).eL (o:=2) (v:= .slice c.ba n c.bc);have q:=h.cs.but hx (by simp) h.pos.1;have hs:=h.iK;have hl:(c.aj.take n).length=n:=by rw [List.length_take];omega
 have hb:=h.box.set 2 (.slice c.ba n c.bc);have hr:=q.ci.aj.take n;rw [←List.map_take]at hr;refine ⟨⟨{q.ci with aj:=hr,cS:=fun u hu=>q.ci.cS u (List.mem_of_mem_take hu)},{q.sp with off:={q.sp.off with cS:=fun u hu=>q.sp.off.cS u (List.mem_of_mem_take hu)}},{q.bl with cS:=fun u hu=>q.bl.cS u (List.mem_of_mem_take hu)},q.ext⟩,?_,h.res.but hx (Ne.symm h.pos.2.2),{hs with cS:=fun u hu=>hs.cS u (List.mem_of_mem_take hu),small:= ?_},h.pos,h.far.but hx (fun b hb _=>by have:=h.kb;omega),h.kb,h.nb⟩
 ·simp only [ai.cells,hl];exact hb
 ·have:=hs.small;simp only [hl];omega
theorem iW.LY {V w0 w:World} {c0:ai} {N:List Nat} {B R:Nat} {c:ai} (h:iW V w0 c0 N w B R c) (k:Nat) (hk:k<c.aq.length) (z:Int) (hz:bB z):
 ∃g,c.ua=some ⟨g,0,none⟩∧w.frozen? ⟨g,k*22+1,none⟩=false∧w.cell? ⟨g,k*22+1,none⟩=some (i64 c.aq[k].cS)∧Cut V w0 c0 N B R c (w.setCell ⟨g,k*22+1,none⟩ (i64 z)):=by
 have hm:=List.getElem_mem hk;have hc:=h.cs.ci.unit _ hm
 have hS: ∀b∈c.aq.set k {c.aq[k]with cS:=z},b.away.length≤100:=fun b hb=>by
  rcases List.mem_or_eq_of_mem_set hb with q|rfl
  ·exact h.iK.unit b q
  ·exact h.iK.unit c.aq[k] hm
 obtain ⟨g,h1,h2,h3,h4,h5,h6,h7⟩:=h.rq k 1 hk (by decide) (i64 z) {c.aq[k]with cS:=z} rfl ⟨hc.1,hc.2.1,hc.2.2.1,hc.2.2.2.1,fun y hy=>by rcases List.mem_cons.1 hy with rfl|hy;exact hz;exact hc.2.2.2.2 y (List.mem_cons_of_mem _ hy)⟩ (h.cs.bl.unit c.aq[k] hm).1 (h.cs.sp.off.unit c.aq[k] hm).1 (h.cs.bl.unit c.aq[k] hm).2 (h.cs.sp.off.unit c.aq[k] hm).2 {h.iK with unit:=hS,small:=by have:=h.iK.small;simp only [List.length_set];exact this};exact ⟨g,h1,h2,h3 1 (by decide),_,h7,rfl,rfl,rfl,by simp only [List.length_set],rfl,rfl,rfl⟩
theorem iW.JH {V w0 w:World} {c0:ai} {N:List Nat} {B R:Nat} {c:ai} (h:iW V w0 c0 N w B R c) (k:Nat) (hk:k<c.stores.length) (z:Int) (hz:bB z):
 ∃g,c.sa=some ⟨g,0,none⟩∧w.frozen? ⟨g,k*9+1,none⟩=false∧w.cell? ⟨g,k*9+1,none⟩=some (i64 c.stores[k].cS)∧Cut V w0 c0 N B R c (w.setCell ⟨g,k*9+1,none⟩ (i64 z)):=by
 have hm:=List.getElem_mem hk;have hc:=h.cs.ci.store _ hm
 have hS: ∀b∈c.stores.set k {c.stores[k]with cS:=z},True:=fun b hb=>by
  rcases List.mem_or_eq_of_mem_set hb with q|rfl
  ·exact trivial
  ·exact trivial
 obtain ⟨g,h1,h2,h3,h4,h5,h6,h7⟩:=h.tv k 1 hk (by decide) (i64 z) {c.stores[k]with cS:=z} rfl ⟨hc.1,fun y hy=>by rcases List.mem_cons.1 hy with rfl|hy;exact hz;exact hc.2 y (List.mem_cons_of_mem _ hy)⟩ {h.iK with small:=by have:=h.iK.small;simp only [List.length_set];exact this};exact ⟨g,h1,h2,h3 1 (by decide),_,h7,rfl,rfl,rfl,rfl,by simp only [List.length_set],rfl,rfl⟩
theorem iW.O5 {V w0 w:World} {c0:ai} {N:List Nat} {B R:Nat} {c:ai} (h:iW V w0 c0 N w B R c) (k:Nat) (hk:k<c.aB.length) (z:Int) (hz:bB z):
 ∃g,c.ta=some ⟨g,0,none⟩∧w.frozen? ⟨g,k*5+1,none⟩=false∧w.cell? ⟨g,k*5+1,none⟩=some (i64 c.aB[k].cS)∧Cut V w0 c0 N B R c (w.setCell ⟨g,k*5+1,none⟩ (i64 z)):=by
 have hm:=List.getElem_mem hk;have hc:=h.cs.ci.tie _ hm
 have hS: ∀b∈c.aB.set k {c.aB[k]with cS:=z},(c.hours≤b.imp.length∧b.imp.length≤100)∧(c.hours≤b.exp.length∧b.exp.length≤100)∧(c.hours≤b.aV.length∧b.aV.length≤100):=fun b hb=>by
  rcases List.mem_or_eq_of_mem_set hb with q|rfl
  ·exact h.iK.tie b q
  ·exact h.iK.tie c.aB[k] hm
 obtain ⟨g,h1,h2,h3,h4,h5,h6,h7⟩:=h.o_ k 1 hk (by decide) (i64 z) {c.aB[k]with cS:=z} rfl ⟨hc.1,hc.2.1,hc.2.2.1,hc.2.2.2.1,hz⟩ (h.cs.bl.tie c.aB[k] hm).1 (h.cs.sp.off.tie c.aB[k] hm).1 (h.cs.bl.tie c.aB[k] hm).2.1 (h.cs.sp.off.tie c.aB[k] hm).2.1 (h.cs.bl.tie c.aB[k] hm).2.2 (h.cs.sp.off.tie c.aB[k] hm).2.2 {h.iK with tie:=hS,small:=by have:=h.iK.small;simp only [List.length_set];exact this};exact ⟨g,h1,h2,h3 1 (by decide),_,h7,rfl,rfl,rfl,rfl,rfl,by simp only [List.length_set],rfl⟩
theorem iW.call {V w0 w w' w2:World} {c0:ai} {N:List Nat} {B R:Nat} {c d:ai} (h:iW V w0 c0 N w B R c) (hc:CS V w' (B::R::N) d) (hs:vN d) (hf:uq w c w' d) (hA:aQ w2 B 32 d.cells) (hx:ar B w' w2):iW V w0 c0 N w2 B R d:=by
 have hR:bA c R:=fun q hq e=>(h.cs.bl.outer q hq).2.2 (by rw [←e];simp);exact ⟨hc.but hx (by simp) h.pos.1,hA,(hf.arr h.res hR).but hx (Ne.symm h.pos.2.2),hs,h.pos,(h.far.trans hf).but hx (fun b hb _=>by have:=h.kb;omega),h.kb,h.nb⟩
theorem iW.YC {V w0 w:World} {c0:ai} {N:List Nat} {B R:Nat} {c:ai} (h:iW V w0 c0 N w B R c):bA c B:=fun q hq e=>(h.cs.bl.outer q hq).2.2 (by rw [←e];simp)
theorem iW.lt {V w0 w:World} {c0:ai} {N:List Nat} {B R:Nat} {c:ai} (h:iW V w0 c0 N w B R c): ∀b∈B::R::N,b<w.heap.size:=fun b hb=>by
 rcases List.mem_cons.1 hb with rfl|hb
 ·exact h.box.lt
 rcases List.mem_cons.1 hb with rfl|hb
 ·exact h.res.lt
 ·have:=h.nb _ hb;have:=h.far.2.2;omega
def Less (c d:ai):Prop:=d.hours=c.hours∧d.aj.length=c.aj.length∧d.lines.length≤c.lines.length∧d.outs.length≤c.outs.length∧d.aq.length=c.aq.length∧d.stores.length=c.stores.length∧d.aB.length=c.aB.length
theorem vP {x:Int} {n:Nat} (h:bB x):bB (Int.tmod x n):=by
 unfold bB at h⊢;have h1:=Int.natAbs_tmod x n;have h2:=Nat.mod_le x.natAbs (n:Int).natAbs;by_cases e:0≤x
 ·have:=Int.tmod_nonneg (n:Int) e;omega
 ·have h4:=Int.tmod_nonneg (n:Int) (show 0≤ -x by omega)
  rw [Int.neg_tmod]at h4;omega
theorem DY (V w:World) (c:ai) (N:List Nat) (h:CS V w N c) (hN: ∀b∈N,b<w.heap.size) (hs:vN c) (hb2:2≤c.aj.length):
 Calls prog 48 #[.agg (C8 c)] w fun e w'=> ∃d,e= .returned (.agg d.cells.toArray)∧CS V w' N d∧vN d∧d.aj.length=c.aj.length-1∧Less {c with aj:=c.aj.take (c.aj.length-1)} d∧uq w c w' d:=by
 try unfold C8
 have jD:=ae hN;have H:=ae h;have HS:=ae hs;have Rh:=ae hb2
 clear h hN hs hb2;go_enter func48,ntmps48
 go_upto_region 1 with fail
 generalize hW:World.alloc w _=W;generalize hW2:World.alloc W _=W2;obtain ⟨B,R,hB,hR,U0⟩:=zR H.o jD.o HS.o hW hW2;rw [←hB,hR];have HU:=ae U0;have hb:=ai.at U0.box;have f4:=U0.box.frozen 2;obtain ⟨n,hn⟩: ∃n,n=c.aj.length-1:=⟨_,rfl⟩;have nW:Hid (n=c.aj.length-1∧n+1=c.aj.length∧n≤100∧1≤n):=by have:=Rh.o;have:=HS.o.small;show _∧_;omega
 have q0:IntKind.i64.wrap ((c.aj.length:Int)-1)=(n:Int):=by rw [IntKind.wrap_i64];have:=nW.o;omega
 have hle:=U0.cs.ci.aj.le;have dQ:=U0.cs.ci.aj.cap
 rw [List.length_map]at hle;have b0:(0:Int)≤(n:Int):=by omega
 have b2:(n:Int)≤(c.bc:Int):=by have:=nW.o;omega
 clear hW hB hW2 hR U0 H hn;go_upto_region 3 with fail
 have U2:=HU.o.aj n (by have:=nW.o;omega);obtain ⟨c1,hc1⟩: ∃c1,c1={c with aj:=c.aj.take n}:=⟨_,rfl⟩;generalize W2.setCell ⟨B,2,none⟩ (.slice c.ba n c.bc)=W4 at*;rw [←hc1]at U2;have S_:=ae U2;have sO:Hid (c1={c with aj:=c.aj.take n}∧c1.aj.length=n):=⟨hc1,by rw [hc1,List.length_take];have:=nW.o;omega⟩;clear hc1 hb f4 q0 hle dQ b2 HU;obtain ⟨k0,k1,k2,k3,k4,k5,k6,k7⟩:=ai.at U2.box;have Qq:=U2.iK.small;have q0:IntKind.i64.wrap ((c1.lines.length:Int)-1)=(c1.lines.length:Int)-1:=by rw [IntKind.wrap_i64];omega
 clear U2;go_wp2_with fail
 go_loopw [4] (fun kv wr=> ∃(s:Nat) (d:ai),s≤d.lines.length∧iW V w c N wr B R d∧Less c1 d∧kv= .int .i64 ((s:Int)-1)) (fun kv _=>(intOf kv+1).toNat)
 case atStart=>exact ⟨c1.lines.length,c1,Nat.le_refl _,S_.o,⟨rfl,rfl,Nat.le_refl _,Nat.le_refl _,rfl,rfl,rfl⟩,rfl⟩
 case round=>
  obtain ⟨s,d,AE,U,hL,rfl⟩:=hrel;clear S_ k0 k1 k2 k3 k4 k5 k6 k7 q0;have HU:=ae U;have HL:=ae hL;have Gp:=ae AE
  clear U hL AE;by_cases hs0:0<s
  ·obtain ⟨k,rfl⟩: ∃k,s=k+1:=⟨s-1,by omega⟩
   rw [show((k+1:Nat):Int)-1=(k:Int) by omega];have CY:(0:Int)≤(k:Int):=by omega
   have CZ:(k:Int)<(d.lines.length:Int):=by have:=Gp.o;omega
   have nE:k<d.lines.length:=by have:=Gp.o;omega
   have q1:IntKind.i64.wrap ((k:Int)-1)=(k:Int)-1:=by rw [IntKind.wrap_i64];have:=HU.o.iK.small;omega
   obtain ⟨g,hg⟩: ∃g,d.la=some ⟨g,0,none⟩:=by
    obtain ⟨b,o,e,-⟩:=HU.o.cs.ci.lines.cell k (by rw [List.length_map];exact nE);obtain ⟨g,cur,e2,-⟩:=HU.o.cs.sp.la _ e;rw [e2]at e;exact ⟨g,e⟩
   have k3:wr.cell? ⟨B,3,none⟩=some (.slice (some ⟨g,0,none⟩) d.lines.length d.lc):=by rw [←hg];exact (HU.o.box.cell 3).trans rfl
   have hle:=HU.o.cs.ci.lines.le;have dQ:=HU.o.cs.ci.lines.cap
   rw [List.length_map]at hle
   have hcell: ∀l,(hl:l<12)→wr.cell? ⟨g,k*12+l,none⟩=some (d.lines[k].cells[l]'hl):=fun l hl=>by
    obtain ⟨b,o,e,q⟩:=HU.o.cs.ci.lines.cell k (by rw [List.length_map];exact nE);rw [hg]at e;cases e
    have q2:=q l (by rw [List.getElem_map];exact hl);rw [Nat.zero_add]at q2;refine q2.trans ?_;congr 1
    exact (List.getElem_of_eq (List.getElem_map ..) _)
   have c1f:wr.cell? ⟨g,k*12+1,none⟩=some (i64 d.lines[k].cR):=hcell 1 (by decide);have c2f:wr.cell? ⟨g,k*12+2,none⟩=some (i64 d.lines[k].kq):=hcell 2 (by decide);generalize d.lines[k].cR=y1 at*;generalize d.lines[k].kq=y2 at*;have BV:=ae nE;clear hcell hg;go_upto_region 6 with fail
   go_cut [42] (fun v wx=>(∃b:Bool,v= .bool b)∧wx=wr)
   case first=>
    as_aux_lemma=>
     go_wp2_with fail
     all_goals go_meet
     all_goals exact ⟨⟨_,rfl⟩,rfl⟩
   case rest=>
    obtain ⟨⟨bq,rfl⟩,rfl⟩:=hcut;clear k3 c1f c2f;have YA:bq=true∨bq=false:=by cases bq<;>simp
    rcases YA with rfl|rfl
    ·have mH: ∀j v,([i64 d.hours,.slice d.ra d.aA.length d.rc,.slice d.ba d.aj.length d.bc,.slice d.la d.lines.length d.lc,.slice d.ua d.aq.length d.uc,.slice d.sa d.stores.length d.sc,.slice d.ta d.aB.length d.tc,.slice d.oa d.outs.length d.oc])[j]?=some v→wc.cell? ((⟨B,0,none⟩:Addr).add j)=some v:=fun j v hj=>by rw [cF,HU.o.box.cell j];exact hj
     go_wp2_with (refine aT rfl 32 _ rfl ⟨B,0,none⟩ rfl [i64 d.hours,.slice d.ra d.aA.length d.rc,.slice d.ba d.aj.length d.bc,.slice d.la d.lines.length d.lc,.slice d.ua d.aq.length d.uc,.slice d.sa d.stores.length d.sc,.slice d.ta d.aB.length d.tc,.slice d.oa d.outs.length d.oc] _ mH rfl rfl (by kernel_rfl) ?_)
     refine (tT V wc d k (B::R::N) HU.o.cs HU.o.lt HU.o.iK BV.o).mono ?_;rintro e w5 ⟨d5,rfl,Fs,hs5,Fu,S5,Sm,JI,vQ⟩;have Bi:=vQ.arr HU.o.box HU.o.YC;have ym:=ae Bi;have LZ:=ae Fs;have Iy:=ae hs5;have Q9:=ae vQ
     have HL5:Hid (Less c1 d5∧k≤d5.lines.length):=by
      have q:=HL.o;refine ⟨⟨Fu.trans q.1,JI.1.trans q.2.1,by have:=q.2.2.1;omega,by have:=q.2.2.2.1;omega,JI.2.1.trans q.2.2.2.2.1,JI.2.2.1.trans q.2.2.2.2.2.1,JI.2.2.2.trans q.2.2.2.2.2.2⟩,by have:=Gp.o;omega⟩
     clear mH Bi Fs hs5 Fu S5 Sm JI vQ;rw [show d5.cells= [i64 d5.hours,.slice d5.ra d5.aA.length d5.rc,.slice d5.ba d5.aj.length d5.bc,.slice d5.la d5.lines.length d5.lc,.slice d5.ua d5.aq.length d5.uc,.slice d5.sa d5.stores.length d5.sc,.slice d5.ta d5.aB.length d5.tc,.slice d5.oa d5.outs.length d5.oc]from rfl];go_wp2_with (refine bp rfl 32 _ _ rfl B [i64 d.hours,.slice d.ra d.aA.length d.rc,.slice d.ba d.aj.length d.bc,.slice d.la d.lines.length d.lc,.slice d.ua d.aq.length d.uc,.slice d.sa d.stores.length d.sc,.slice d.ta d.aB.length d.tc,.slice d.oa d.outs.length d.oc] [i64 d5.hours,.slice d5.ra d5.aA.length d5.rc,.slice d5.ba d5.aj.length d5.bc,.slice d5.la d5.lines.length d5.lc,.slice d5.ua d5.aq.length d5.uc,.slice d5.sa d5.stores.length d5.sc,.slice d5.ta d5.aB.length d5.tc,.slice d5.oa d5.outs.length d5.oc] ym.o rfl rfl (by kernel_rfl) rfl rfl ?_;intro w9 uI jC;have U9:Hid (iW V w c N w9 B R d5):=HU.o.call LZ.o Iy.o Q9.o uI jC;clear uI jC)
     exact ⟨⟨k,d5,HL5.o.2,U9.o,HL5.o.1,by go_num⟩,by simp only [intOf];omega⟩
    ·go_wp2_with fail
     exact ⟨⟨k,d,by have:=BV.o;omega,HU.o,HL.o,by go_num⟩,by simp only [intOf];omega⟩
  ·obtain rfl:s=0:=by omega
   have aep: ¬(0:Int)≤((0:Nat):Int)-1:=by omega
   obtain ⟨c2,hc2⟩: ∃c2,c2=d:=⟨_,rfl⟩;have H1:Hid (Cut V w c N B R c2 wr):=by rw [hc2];exact ⟨d,HU.o,rfl,lT.refl _⟩
   have xq:Hid (Less c1 c2):=by rw [hc2];exact HL.o
   clear hc2 HU HL Gp;go_upto_region 8 with fail
   go_wp2_with fail
   go_loopw [5] (fun kv wr=> ∃k:Nat,k≤c2.aq.length∧Cut V w c N B R c2 wr∧kv= .int .i64 (k:Int)) (fun kv _=>c2.aq.length-(intOf kv).toNat)
   case atStart=>exact ⟨0,Nat.zero_le _,H1.o,rfl⟩
   case round=>
    obtain ⟨k,hk,⟨d,U,hh,hsm⟩,rfl⟩:=hrel;clear H1;have hbl:d.aq.length=c2.aq.length:=hsm.2.2.1;have BU:=U.cs.ci.aq.le;have Nl:=U.cs.ci.aq.cap
    rw [List.length_map]at BU;have kc:wr.cell? ⟨B,4,none⟩=some (.slice d.ua c2.aq.length d.uc):=by rw [←hbl];exact (U.box.cell 4).trans rfl
    have HU:=ae U;have kg:=ae hsm;have uM:=ae hh;have iG:=ae hbl
    clear U hsm hh;by_cases hlt:k<c2.aq.length
    ·have CY:(0:Int)≤(k:Int):=by omega
     have CZ:(k:Int)<(c2.aq.length:Int):=by omega
     have q1:IntKind.i64.wrap ((k:Int)+1)=((k+1:Nat):Int):=by rw [IntKind.wrap_i64];omega
     go_upto_region 11 with fail
     have U':=HU.o.grow (Ext.refl wr).drew;have nE:k<d.aq.length:=by rw [iG.o];exact hlt
     have JJ:bB d.aq[k].cS:=(U'.cs.ci.unit _ (List.getElem_mem nE)).2.2.2.2 _ (List.mem_cons_self ..);have CQ:bB (Int.tmod d.aq[k].cS n):=vP JJ;obtain ⟨g,hg,f1,c0,hcut⟩:=U'.LY k nE _ CQ;have hb2:wr.drew.cell? ⟨B,4,none⟩=some (.slice (some ⟨g,0,none⟩) c2.aq.length d.uc):=by rw [←hg];exact kc
     have HRM:=ae CQ;have HBI:=ae JJ
     have qw:IntKind.i64.wrap (Int.tmod d.aq[k].cS n)=Int.tmod d.aq[k].cS n:=by rw [IntKind.wrap_i64];unfold bB at CQ;omega
     generalize d.aq[k].cS=bu at*;have oD:=ae hcut;clear hcut U' kc hbl hg JJ CQ nE;have Fv: ¬n=0:=by have:=nW.o;omega
     refine zG 13 (fun w=>w.cell? ⟨B,4,none⟩=some (.slice (some ⟨g,0,none⟩) c2.aq.length d.uc)∧w.cell? ⟨g,k*22+1,none⟩=some (i64 bu)) ⟨hb2,c0⟩ fun e=> ?_;iterate 11 refine zI 0 e ?_
     refine zJ 0 e ?_;refine zI 0 e ?_;refine zL 13 fun K' hK=> ?_;obtain ⟨-,c0⟩:=e;go_simp;refine hK.o _ _ ?_;clear hK c0 f1;go_wp2_with fail
     exact ⟨⟨k+1,by omega,oD.o.trans uM.o kg.o,by go_num⟩,by simp only [intOf];omega⟩
    ·obtain rfl:k=c2.aq.length:=by omega
     have H1:Hid (Cut V w c N B R c2 wr):=⟨d,HU.o,uM.o,kg.o⟩;go_wp2_with fail
     go_loopw [6] (fun kv wr=> ∃k:Nat,k≤c2.stores.length∧Cut V w c N B R c2 wr∧kv= .int .i64 (k:Int)) (fun kv _=>c2.stores.length-(intOf kv).toNat)
     case atStart=>exact ⟨0,Nat.zero_le _,H1.o,rfl⟩
     case round=>
      obtain ⟨k,hk,⟨d,U,hh,hsm⟩,rfl⟩:=hrel;clear H1;have hbl:d.stores.length=c2.stores.length:=hsm.2.2.2.1;have BU:=U.cs.ci.stores.le;have Nl:=U.cs.ci.stores.cap
      rw [List.length_map]at BU;have kc:wr.cell? ⟨B,5,none⟩=some (.slice d.sa c2.stores.length d.sc):=by rw [←hbl];exact (U.box.cell 5).trans rfl
      have HU:=ae U;have kg:=ae hsm;have uM:=ae hh;have iG:=ae hbl
      clear U hsm hh;by_cases hlt:k<c2.stores.length
      ·have CY:(0:Int)≤(k:Int):=by omega
       have CZ:(k:Int)<(c2.stores.length:Int):=by omega
       have q1:IntKind.i64.wrap ((k:Int)+1)=((k+1:Nat):Int):=by rw [IntKind.wrap_i64];omega
       go_upto_region 15 with fail
       have U':=HU.o.grow (Ext.refl wr).drew;have nE:k<d.stores.length:=by rw [iG.o];exact hlt
       have JJ:bB d.stores[k].cS:=(U'.cs.ci.store _ (List.getElem_mem nE)).2 _ (List.mem_cons_self ..);have CQ:bB (Int.tmod d.stores[k].cS n):=vP JJ;obtain ⟨g,hg,f1,c0,hcut⟩:=U'.JH k nE _ CQ;have hb2:wr.drew.cell? ⟨B,5,none⟩=some (.slice (some ⟨g,0,none⟩) c2.stores.length d.sc):=by rw [←hg];exact kc
       have HRM:=ae CQ;have HBI:=ae JJ
       have qw:IntKind.i64.wrap (Int.tmod d.stores[k].cS n)=Int.tmod d.stores[k].cS n:=by rw [IntKind.wrap_i64];unfold bB at CQ;omega
       generalize d.stores[k].cS=bu at*;have oD:=ae hcut;clear hcut U' kc hbl hg JJ CQ nE;have Fv: ¬n=0:=by have:=nW.o;omega
       refine zG 13 (fun w=>w.cell? ⟨B,5,none⟩=some (.slice (some ⟨g,0,none⟩) c2.stores.length d.sc)∧w.cell? ⟨g,k*9+1,none⟩=some (i64 bu)) ⟨hb2,c0⟩ fun e=> ?_;iterate 11 refine zI 0 e ?_
       refine zJ 0 e ?_;refine zI 0 e ?_;refine zL 13 fun K' hK=> ?_;obtain ⟨-,c0⟩:=e;go_simp;refine hK.o _ _ ?_;clear hK c0 f1;go_wp2_with fail
       exact ⟨⟨k+1,by omega,oD.o.trans uM.o kg.o,by go_num⟩,by simp only [intOf];omega⟩
      ·obtain rfl:k=c2.stores.length:=by omega
       have H1:Hid (Cut V w c N B R c2 wr):=⟨d,HU.o,uM.o,kg.o⟩;go_wp2_with fail
       go_loopw [7] (fun kv wr=> ∃k:Nat,k≤c2.aB.length∧Cut V w c N B R c2 wr∧kv= .int .i64 (k:Int)) (fun kv _=>c2.aB.length-(intOf kv).toNat)
       case atStart=>exact ⟨0,Nat.zero_le _,H1.o,rfl⟩
       case round=>
        obtain ⟨k,hk,⟨d,U,hh,hsm⟩,rfl⟩:=hrel;clear H1;have hbl:d.aB.length=c2.aB.length:=hsm.2.2.2.2.1;have BU:=U.cs.ci.aB.le;have Nl:=U.cs.ci.aB.cap
        rw [List.length_map]at BU;have kc:wr.cell? ⟨B,6,none⟩=some (.slice d.ta c2.aB.length d.tc):=by rw [←hbl];exact (U.box.cell 6).trans rfl
        have HU:=ae U;have kg:=ae hsm;have uM:=ae hh;have iG:=ae hbl
        clear U hsm hh;by_cases hlt:k<c2.aB.length
        ·have CY:(0:Int)≤(k:Int):=by omega
         have CZ:(k:Int)<(c2.aB.length:Int):=by omega
         have q1:IntKind.i64.wrap ((k:Int)+1)=((k+1:Nat):Int):=by rw [IntKind.wrap_i64];omega
         go_upto_region 19 with fail
         have U':=HU.o.grow (Ext.refl wr).drew;have nE:k<d.aB.length:=by rw [iG.o];exact hlt
         have JJ:bB d.aB[k].cS:=(U'.cs.ci.tie _ (List.getElem_mem nE)).2.2.2.2;have CQ:bB (Int.tmod d.aB[k].cS n):=vP JJ;obtain ⟨g,hg,f1,c0,hcut⟩:=U'.O5 k nE _ CQ;have hb2:wr.drew.cell? ⟨B,6,none⟩=some (.slice (some ⟨g,0,none⟩) c2.aB.length d.tc):=by rw [←hg];exact kc
         have HRM:=ae CQ;have HBI:=ae JJ
         have qw:IntKind.i64.wrap (Int.tmod d.aB[k].cS n)=Int.tmod d.aB[k].cS n:=by rw [IntKind.wrap_i64];unfold bB at CQ;omega
         generalize d.aB[k].cS=bu at*;have oD:=ae hcut;clear hcut U' kc hbl hg JJ CQ nE;have Fv: ¬n=0:=by have:=nW.o;omega
         refine zG 13 (fun w=>w.cell? ⟨B,6,none⟩=some (.slice (some ⟨g,0,none⟩) c2.aB.length d.tc)∧w.cell? ⟨g,k*5+1,none⟩=some (i64 bu)) ⟨hb2,c0⟩ fun e=> ?_;iterate 11 refine zI 0 e ?_
         refine zJ 0 e ?_;refine zI 0 e ?_;refine zL 13 fun K' hK=> ?_;obtain ⟨-,c0⟩:=e;go_simp;refine hK.o _ _ ?_;clear hK c0 f1;go_wp2_with fail
         exact ⟨⟨k+1,by omega,oD.o.trans uM.o kg.o,by go_num⟩,by simp only [intOf];omega⟩
        ·obtain rfl:k=c2.aB.length:=by omega
         have H1:Hid (Cut V w c N B R c2 wr):=⟨d,HU.o,uM.o,kg.o⟩;go_upto_region 20 with fail
         have mH: ∀j v,([i64 d.hours,.slice d.ra d.aA.length d.rc,.slice d.ba d.aj.length d.bc,.slice d.la d.lines.length d.lc,.slice d.ua d.aq.length d.uc,.slice d.sa d.stores.length d.sc,.slice d.ta d.aB.length d.tc,.slice d.oa d.outs.length d.oc])[j]?=some v→wr.cell? ((⟨B,0,none⟩:Addr).add j)=some v:=fun j v hj=>by rw [cF,HU.o.box.cell j];exact hj
         have DV:=HU.o.res;go_wp2_with (first|(refine aT rfl 32 _ rfl ⟨B,0,none⟩ rfl [i64 d.hours,.slice d.ra d.aA.length d.rc,.slice d.ba d.aj.length d.bc,.slice d.la d.lines.length d.lc,.slice d.ua d.aq.length d.uc,.slice d.sa d.stores.length d.sc,.slice d.ta d.aB.length d.tc,.slice d.oa d.outs.length d.oc] _ mH rfl rfl (by kernel_rfl) ?_)|(refine bp rfl 32 _ _ rfl R lS.cells [i64 d.hours,.slice d.ra d.aA.length d.rc,.slice d.ba d.aj.length d.bc,.slice d.la d.lines.length d.lc,.slice d.ua d.aq.length d.uc,.slice d.sa d.stores.length d.sc,.slice d.ta d.aB.length d.tc,.slice d.oa d.outs.length d.oc] DV rfl rfl (by kernel_rfl) rfl rfl ?_;intro qO kZ dI))
         have U9:=HU.o;have C9:=U9.cs.but dI (by simp) U9.pos.2.1;refine bodyPost_ret (v:= .agg ([i64 d.hours,.slice d.ra d.aA.length d.rc,.slice d.ba d.aj.length d.bc,.slice d.la d.lines.length d.lc,.slice d.ua d.aq.length d.uc,.slice d.sa d.stores.length d.sc,.slice d.ta d.aB.length d.tc,.slice d.oa d.outs.length d.oc]).toArray) (fL 2 _ rfl rfl kZ rfl rfl (by kernel_rfl)) rfl ⟨d,rfl,⟨C9.ci,C9.sp,C9.bl.mono fun b hb=>⟨hb.1,hb.2.1,fun m=>hb.2.2 (List.mem_cons_of_mem _ (List.mem_cons_of_mem _ m))⟩,C9.ext⟩,U9.iK,?_,?_,U9.far.but dI fun b hb _=>by have:=U9.kb;omega⟩
         ·rw [kg.o.1,xq.o.2.1,sO.o.2];exact nW.o.1
         ·rw [←nW.o.1,←sO.o.1]
          have q:=xq.o;have m:=kg.o
          exact ⟨uM.o.trans q.1,m.1.trans q.2.1,by rw [m.2.1];exact q.2.2.1,by rw [m.2.2.2.2.2];exact q.2.2.2.1,m.2.2.1.trans q.2.2.2.2.1,m.2.2.2.1.trans q.2.2.2.2.2.1,m.2.2.2.2.1.trans q.2.2.2.2.2.2⟩
end Go.Proofs.YtkpngkdgphojlaaGreat
