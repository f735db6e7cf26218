/- Texts of the proof. -/
import Derived.Test.YtkpngkdgphojlaaGreatCf32
import Derived.Test.YtkpngkdgphojlaaGreatCf39
set_option linter.all false
set_option maxHeartbeats 8000000
set_option maxRecDepth 100000
namespace Go.Proofs.YtkpngkdgphojlaaGreat
open Go.Proofs.Tryz
open Go.RowKit
theorem fT.iK {hh nb:Nat} {c:ai} (h:fT hh nb c):vN c:=by
 have h1:=h.hours;have h2:=h.hr;have h3:=h.res;have h4:=h.Nk;have h5:=h.lines;have h6:=h.aq;have h7:=h.stores;have h8:=h.aB;have h9:=h.outs
 refine ⟨by omega,by omega,fun b hb=> ?_,fun t ht=> ?_,⟨by omega,by omega,by omega,by omega,by omega,by omega,by omega⟩,fun l hl=> ?_,fun u hu=> ?_,fun o ho=> ?_⟩
 ·obtain ⟨j,hj,rfl⟩:=List.getElem_of_mem hb
  have:=(h.cS j hj).len;omega
 ·have q:=h.tie t ht
  have:=q.imp.1;have:=q.exp.1;have:=q.aV.1;omega
 ·obtain ⟨j,hj,rfl⟩:=List.getElem_of_mem hl
  obtain ⟨fr,tb,-,-,-,m⟩:=h.line j hj;have:=m.Ll.1;omega
 ·obtain ⟨j,hj,rfl⟩:=List.getElem_of_mem hu
  obtain ⟨bu,-,m⟩:=h.unit j hj;have:=m.Ll.1;omega
 ·obtain ⟨j,hj,rfl⟩:=List.getElem_of_mem ho
  have m:=h.o j hj;have:=m.moves.len;have:=m.lines;omega
theorem vN.lens {c:ai} (h:vN c):oA c:=by
 have:=h.small;exact ⟨by omega,by omega,by omega,by omega,by omega,by omega,fun o ho=>by have:=(h.o o ho).2;omega⟩
theorem JW (V:World) (c:ai) (hc:a_ V c) (hl:oA c):
 Calls prog 50 #[.agg (C8 c)] V fun e w'=>e= .returned (.bool (dW c==0))∧Ext V w':=by
 try unfold C8
 have OU:=ae (fun U (x:Ext V U)=>tq U c (hc.ext x) hl);obtain ⟨ce,hce⟩: ∃ce,ce=dW c:=⟨_,rfl⟩;rw [←hce];have Ym:=ae hce;clear hc hl hce;go_enter func50,ntmps50
 go_upto_region 1 with fail
 generalize hW:World.alloc V _=W;obtain ⟨B,hB,x,A⟩:=bX hW;rw [←hB];have HX:=ae x;have k0:=ai.at A;clear hW hB x A;go_wp2_with fail
 refine (OU.o W HX.o).mono ?_;rintro e w1 ⟨ek,ei,ef,rfl,xx⟩;clear OU k0;rw [←Ym.o];go_upto_region 2 with fail
 generalize hW2:World.alloc w1 _=W2;obtain ⟨B2,-,x2,-⟩:=bX hW2;have ez:=ae (HX.o.trans (xx.trans x2));clear hW2 xx x2;go_wp2_with fail
 go_ret;exact ⟨rfl,ez.o⟩
structure Cu (W1:World) (C:Nat) (w:World) (d:ai):Prop where
 cs:CS W1 w [C] d
 box:aQ w C 32 d.cells
 iK:vN d
 pos:W1.heap.size≤C
theorem Cu.off {W1 w:World} {C:Nat} {d:ai} (h:Cu W1 C w d):bA d C:=fun q hq e=>(h.cs.bl.outer q hq).2.2 (by rw [←e];simp)
theorem Cu.lt {W1 w:World} {C:Nat} {d:ai} (h:Cu W1 C w d): ∀b∈ [C],b<w.heap.size:=fun b hb=>by
 rw [List.mem_singleton]at hb;rw [hb];exact h.box.lt
theorem Cu.call {W1 w w' w2:World} {C:Nat} {d e:ai} (h:Cu W1 C w d) (hc:CS W1 w' [C] e) (hs:vN e) (hA:aQ w2 C 32 e.cells) (hx:ar C w' w2):Cu W1 C w2 e:=
 ⟨hc.but hx (by simp) h.pos,hA,hs,h.pos⟩
def pd (w:World) (C:Nat):Nat:=match w.cell? ⟨C,0,none⟩with|some (.int _ z)=>z.toNat|_=>0
def rC (w:World) (C k:Nat):Nat:=match w.cell? ⟨C,k,none⟩with|some (.slice _ n _)=>n|_=>0
theorem Cu.pd {W1 w:World} {C:Nat} {d:ai} (h:Cu W1 C w d):pd w C=d.hours.toNat:=by unfold Go.Proofs.YtkpngkdgphojlaaGreat.pd;rw [h.box.cell 0];rfl
theorem Cu.Tx {W1 w:World} {C:Nat} {d:ai} (h:Cu W1 C w d):rC w C 2=d.aj.length:=by unfold rC;rw [h.box.cell 2];rfl
theorem Cu.Ty {W1 w:World} {C:Nat} {d:ai} (h:Cu W1 C w d):rC w C 3=d.lines.length:=by unfold rC;rw [h.box.cell 3];rfl
theorem Cu.Tz {W1 w:World} {C:Nat} {d:ai} (h:Cu W1 C w d):rC w C 4=d.aq.length:=by unfold rC;rw [h.box.cell 4];rfl
section
open Go
variable{P:Program} {ops:Array Oper} {Q:Exit→Act→World→Prop} {S R:World→Prop} {Z:Nat→Bool} {n:Nat} {ls li lj:Array Bool} {a:Act} {w:World}
theorem yC2 (i j:Nat) {oi oj:Oper} (hi: ∀K':Act→World→Prop,Shut (∀a w,S w→R w→(S w→R w→DR P ops Q S R Z n li a w)→K' a w)→if Region.wanted oi (yielded ops a.tmps)=true then Oper.wp P oi a w K' Q else K' (a.put oi.dst undef) w)
 (hj: ∀K':Act→World→Prop,Shut (∀a w,S w→R w→(S w→R w→DR P ops Q S R Z n lj a w)→K' a w)→if Region.wanted oj (yielded ops a.tmps)=true then Oper.wp P oj a w K' Q else K' (a.put oj.dst undef) w)
 (ho:ops[i]?=some oi:=by rfl) (hp:ops[j]?=some oj:=by rfl) (hl:ls.setIfInBounds i true=li:=by simp only [sS];rfl) (hm:ls.setIfInBounds j true=lj:=by simp only [sS];rfl) (hr:Region.ready .any ops ls= [i,j]:=by kernel_rfl):DR P ops Q S R Z (n+1) ls a w:=by
 subst hl hm;exact bE hr (by simp) (aH.cons ho hi (aH.cons hp hj aH.nil))
end
theorem fJ (l:List aY):(∀r∈l.map aY.cells,r.length=4)∧(l.map aY.cells).flatten.length=l.length*4∧ ∀u∈(l.map aY.cells).flatten,u.oneCell'=true:=by
 have h1: ∀r∈l.map aY.cells,r.length=4:=fun r hr=>by obtain ⟨y,-,rfl⟩:=List.mem_map.1 hr;rfl
 refine ⟨h1,by rw [gC _ h1,List.length_map],fun u hu=> ?_⟩;obtain ⟨r,hr,hu⟩:=List.mem_flatten.1 hu;obtain ⟨o,-,rfl⟩:=List.mem_map.1 hr;exact List.all_eq_true.1 (show o.cells.all (·.oneCell')=true from rfl) u hu
structure Cl (W1:World) (C:Nat) (d:ai) (w:World) (os:List aY) (ga:Option Addr) (gc:Nat):Prop where
 base:CS W1 w [C] d
 box:aQ w C 32 ({d with oa:=ga,oc:=gc,outs:=os}:ai).cells
 recs:bH w 4 ga gc (os.map aY.cells)
 sub: ∀o∈os,o∈d.outs
 off: ∀p,ga=some p→C<p.block
 nil:ga=none→os.length=0∧gc=0
 iK:vN d
 pos:W1.heap.size≤C
 two:os.length≤2
theorem Cl.case {W1 w:World} {C:Nat} {d:ai} {os:List aY} {ga:Option Addr} {gc:Nat} (h:Cl W1 C d w os ga gc):a_ w {d with oa:=ga,oc:=gc,outs:=os}:=
 {h.base.ci with outs:=h.recs,o:=fun o ho=>h.base.ci.o o (h.sub o ho)}
theorem Cl.lens {W1 w:World} {C:Nat} {d:ai} {os:List aY} {ga:Option Addr} {gc:Nat} (h:Cl W1 C d w os ga gc):oA {d with oa:=ga,oc:=gc,outs:=os}:=by
 have q:=h.iK.lens;exact {q with outs:=by have:=h.two;show os.length≤_;omega,moves:=fun o ho=>q.moves o (h.sub o ho)}
theorem Cl.grow {W1 w w':World} {C:Nat} {d:ai} {os:List aY} {ga:Option Addr} {gc:Nat} (h:Cl W1 C d w os ga gc) (x:Ext w w'):Cl W1 C d w' os ga gc:=
 {h with base:=h.base.grow x,box:=h.box.ext x,recs:=h.recs.ext x}
theorem Cl.TA {W1 w:World} {C R:Nat} {d:ai} {os:List aY} {ga:Option Addr} {gc:Nat} (h:Cl W1 C d w os ga gc) (hR:R<W1.heap.size):bZ (fun b=>b≠R) {d with oa:=ga,oc:=gc,outs:=os}:=by
 have q:=h.base.bl.mono (Q:=fun b=>b≠R) fun b hb=>by omega
 exact {q with outs:=fun p e=>by have:=h.off p e;have:=h.pos;omega,o:=fun o ho=>q.o o (h.sub o ho)}
theorem Cl.up {W1 w:World} {C:Nat} {d:ai} {os:List aY} {ga:Option Addr} {gc:Nat} (h:Cl W1 C d w os ga gc):bZ (fun b=>W1.heap.size≤b) {d with oa:=ga,oc:=gc,outs:=os}:=by
 have q:=h.base.bl.mono (Q:=fun b=>W1.heap.size≤b) fun b hb=>hb.1;exact {q with outs:=fun p e=>by have:=h.off p e;have:=h.pos;omega,o:=fun o ho=>q.o o (h.sub o ho)}
theorem Cl.next {W1 w w':World} {C:Nat} {d:ai} {os os2:List aY} {ga g2:Option Addr} {gc k2:Nat} (h:Cl W1 C d w os ga gc) (hx:ar C w w') (hA:aQ w' C 32 ({d with oa:=g2,oc:=k2,outs:=os2}:ai).cells)
 (hr:bH w 4 g2 k2 (os2.map aY.cells)) (hs: ∀o∈os2,o∈d.outs) (ho: ∀p,g2=some p→C<p.block) (hn:g2=none→os2.length=0∧k2=0) (h2:os2.length≤2):Cl W1 C d w' os2 g2 k2:=
 ⟨h.base.but hx (by simp) h.pos,hA,hr.but hx fun p e=>by have:=ho p e;omega,hs,ho,hn,h.iK,h.pos,h2⟩
theorem L8 (V:World) (a:Option Addr) (cp:Nat) (l:List Int) (hl:aI V a cp l):
 Calls prog 19 #[.slice a l.length cp] V fun e w'=> ∃d,e= .returned (.agg d.cells.toArray)∧a_ w' d∧oA d∧d.aq.length+d.stores.length+d.aB.length+d.aj.length≤10000∧bZ (fun b=>V.heap.size≤b) d∧Ext V w':=by
 have HL:=ae hl;clear hl;go_enter func19,ntmps19
 go_upto_region 1 with fail
 generalize hW:World.alloc V _=W1;obtain ⟨R,hR,x1,A1⟩:=bX hW;rw [←hR];have JX:=ae A1;have ET:Hid (V.heap.size≤R):=by show _≤_;omega
 have Lt:Hid (R<W1.heap.size):=A1.lt;have eE:=ae x1;clear hW hR x1 A1;go_wp2_with fail
 refine (L5 W1 a cp l (HL.o.ext eE.o)).mono ?_;rintro e w2 ⟨hh,nb,x,rfl,hc,hm,-,hbl,x2⟩;have TB:CS W1 w2 [] x:=⟨hc,hbl.2.1,⟨fun p e=>⟨hbl.1.aA p e,hbl.2.2.aA p e,by simp⟩,fun p e=>⟨hbl.1.aj p e,hbl.2.2.aj p e,by simp⟩,fun b hb p e=>⟨hbl.1.cS b hb p e,hbl.2.2.cS b hb p e,by simp⟩,fun p e=>⟨hbl.1.lines p e,hbl.2.2.lines p e,by simp⟩,fun b hb p e=>⟨hbl.1.line b hb p e,hbl.2.2.line b hb p e,by simp⟩,fun p e=>⟨hbl.1.aq p e,hbl.2.2.aq p e,by simp⟩,fun b hb=>⟨fun p e=>⟨(hbl.1.unit b hb).1 p e,(hbl.2.2.unit b hb).1 p e,by simp⟩,fun p e=>⟨(hbl.1.unit b hb).2 p e,(hbl.2.2.unit b hb).2 p e,by simp⟩⟩,fun p e=>⟨hbl.1.stores p e,hbl.2.2.stores p e,by simp⟩,fun p e=>⟨hbl.1.aB p e,hbl.2.2.aB p e,by simp⟩,fun b hb=>⟨fun p e=>⟨(hbl.1.tie b hb).1 p e,(hbl.2.2.tie b hb).1 p e,by simp⟩,fun p e=>⟨(hbl.1.tie b hb).2.1 p e,(hbl.2.2.tie b hb).2.1 p e,by simp⟩,fun p e=>⟨(hbl.1.tie b hb).2.2 p e,(hbl.2.2.tie b hb).2.2 p e,by simp⟩⟩,fun p e=>⟨hbl.1.outs p e,hbl.2.2.outs p e,by simp⟩,fun b hb=>⟨fun p e=>⟨(hbl.1.o b hb).1 p e,(hbl.2.2.o b hb).1 p e,by simp⟩,fun p e=>⟨(hbl.1.o b hb).2 p e,(hbl.2.2.o b hb).2 p e,by simp⟩⟩⟩,x2⟩;have L9:=ae TB;have TC:=ae hm.iK
 clear TB hc hm hbl x2 HL;rw [show x.cells= [i64 x.hours,.slice x.ra x.aA.length x.rc,.slice x.ba x.aj.length x.bc,.slice x.la x.lines.length x.lc,.slice x.ua x.aq.length x.uc,.slice x.sa x.stores.length x.sc,.slice x.ta x.aB.length x.tc,.slice x.oa x.outs.length x.oc]from rfl];go_upto_region 2 with(refine dR rfl 32 _ _ rfl lS.cells [i64 x.hours,.slice x.ra x.aA.length x.rc,.slice x.ba x.aj.length x.bc,.slice x.la x.lines.length x.lc,.slice x.ua x.aq.length x.uc,.slice x.sa x.stores.length x.sc,.slice x.ta x.aB.length x.tc,.slice x.oa x.outs.length x.oc] rfl rfl (by kernel_rfl) rfl rfl ?_)
 generalize hw3:World.alloc w2 _=w3;obtain ⟨C,hC,x3,A3⟩:=bX hw3;rw [←hC]
 have H0:Hid (Cu W1 C w3 x):=by
  have h1:=L9.o.ext.size;exact ⟨(L9.o.more (K:=C) (L9.o.bl.mono fun b hb=>by omega)).grow x3,A3,TC.o,by omega⟩
 clear hw3 hC x3 A3 L9 TC;simp only [Act.put];go_loopw [] (fun wr=> ∃d,Cu W1 C wr d) (fun wr=>pd wr C)
 case atStart=>exact ⟨_,H0.o⟩
 case round=>
  obtain ⟨d,U⟩:=hrel;clear H0;have k0:=(U.box.cell 0).trans (show _=some (i64 d.hours)from rfl);have HU:=ae U;by_cases Bk:(2:Int)<d.hours
  ·obtain ⟨hn,hhn⟩: ∃hn:Nat,d.hours=(hn:Int)+1:=⟨(d.hours-1).toNat,by omega⟩;have HHN:=ae hhn;clear hhn
   have HG:=ae Bk;clear U;have mH: ∀j v,([i64 d.hours,.slice d.ra d.aA.length d.rc,.slice d.ba d.aj.length d.bc,.slice d.la d.lines.length d.lc,.slice d.ua d.aq.length d.uc,.slice d.sa d.stores.length d.sc,.slice d.ta d.aB.length d.tc,.slice d.oa d.outs.length d.oc])[j]?=some v→wr.cell? ((⟨C,0,none⟩:Addr).add j)=some v:=fun j v hj=>by rw [cF,HU.o.box.cell j];exact hj
   go_wp2_with (refine aT rfl 32 _ rfl ⟨C,0,none⟩ rfl [i64 d.hours,.slice d.ra d.aA.length d.rc,.slice d.ba d.aj.length d.bc,.slice d.la d.lines.length d.lc,.slice d.ua d.aq.length d.uc,.slice d.sa d.stores.length d.sc,.slice d.ta d.aB.length d.tc,.slice d.oa d.outs.length d.oc] _ mH rfl rfl (by kernel_rfl) ?_)
   refine (DT W1 wr d hn [C] HU.o.cs HU.o.lt HU.o.iK HHN.o).mono ?_;rintro e w5 ⟨e2,rfl,Fs,hs5,Fu,JI,vQ⟩;have Bi:=vQ.arr HU.o.box HU.o.off;have ym:=ae Bi;have LZ:=ae Fs;have Iy:=ae hs5;have Pd:=ae Fu
   clear mH Bi Fs hs5 Fu vQ JI;rw [show e2.cells= [i64 e2.hours,.slice e2.ra e2.aA.length e2.rc,.slice e2.ba e2.aj.length e2.bc,.slice e2.la e2.lines.length e2.lc,.slice e2.ua e2.aq.length e2.uc,.slice e2.sa e2.stores.length e2.sc,.slice e2.ta e2.aB.length e2.tc,.slice e2.oa e2.outs.length e2.oc]from rfl];go_wp2_with (refine bp rfl 32 _ _ rfl C [i64 d.hours,.slice d.ra d.aA.length d.rc,.slice d.ba d.aj.length d.bc,.slice d.la d.lines.length d.lc,.slice d.ua d.aq.length d.uc,.slice d.sa d.stores.length d.sc,.slice d.ta d.aB.length d.tc,.slice d.oa d.outs.length d.oc] [i64 e2.hours,.slice e2.ra e2.aA.length e2.rc,.slice e2.ba e2.aj.length e2.bc,.slice e2.la e2.lines.length e2.lc,.slice e2.ua e2.aq.length e2.uc,.slice e2.sa e2.stores.length e2.sc,.slice e2.ta e2.aB.length e2.tc,.slice e2.oa e2.outs.length e2.oc] ym.o rfl rfl (by kernel_rfl) rfl rfl ?_;intro w9 uI jC;have U9:Hid (Cu W1 C w9 e2):=HU.o.call LZ.o Iy.o uI jC;clear uI jC;simp only [Act.put])
   exact ⟨⟨e2,U9.o⟩,by rw [U9.o.pd,HU.o.pd];have:=Pd.o;have:=HHN.o;omega⟩
  ·have H1:=ae U
   clear U HU;go_wp2_with fail
   go_loopw [] (fun wr=> ∃d,Cu W1 C wr d) (fun wr=>rC wr C 4)
   case atStart=>exact ⟨_,H1.o⟩
   case round=>
    obtain ⟨d,U⟩:=hrel;clear H1;have k4:=(U.box.cell 4).trans (show _=some (.slice d.ua d.aq.length d.uc)from rfl);have HU:=ae U;by_cases Bk:(2:Int)<(d.aq.length:Int)
    ·have q1:0<d.aq.length:=by omega
     have HG:=ae Bk;clear U;have mH: ∀j v,([i64 d.hours,.slice d.ra d.aA.length d.rc,.slice d.ba d.aj.length d.bc,.slice d.la d.lines.length d.lc,.slice d.ua d.aq.length d.uc,.slice d.sa d.stores.length d.sc,.slice d.ta d.aB.length d.tc,.slice d.oa d.outs.length d.oc])[j]?=some v→wr.cell? ((⟨C,0,none⟩:Addr).add j)=some v:=fun j v hj=>by rw [cF,HU.o.box.cell j];exact hj
     go_wp2_with (refine aT rfl 32 _ rfl ⟨C,0,none⟩ rfl [i64 d.hours,.slice d.ra d.aA.length d.rc,.slice d.ba d.aj.length d.bc,.slice d.la d.lines.length d.lc,.slice d.ua d.aq.length d.uc,.slice d.sa d.stores.length d.sc,.slice d.ta d.aB.length d.tc,.slice d.oa d.outs.length d.oc] _ mH rfl rfl (by kernel_rfl) ?_)
     refine (BW W1 wr d [C] HU.o.cs HU.o.lt HU.o.iK q1).mono ?_;rintro e w5 ⟨e2,rfl,Fs,hs5,JI,Fu,TD,vQ⟩;have Bi:=vQ.arr HU.o.box HU.o.off;have ym:=ae Bi;have LZ:=ae Fs;have Iy:=ae hs5;have Pd:=ae Fu
     clear mH Bi Fs hs5 Fu vQ JI TD;rw [show e2.cells= [i64 e2.hours,.slice e2.ra e2.aA.length e2.rc,.slice e2.ba e2.aj.length e2.bc,.slice e2.la e2.lines.length e2.lc,.slice e2.ua e2.aq.length e2.uc,.slice e2.sa e2.stores.length e2.sc,.slice e2.ta e2.aB.length e2.tc,.slice e2.oa e2.outs.length e2.oc]from rfl];go_wp2_with (refine bp rfl 32 _ _ rfl C [i64 d.hours,.slice d.ra d.aA.length d.rc,.slice d.ba d.aj.length d.bc,.slice d.la d.lines.length d.lc,.slice d.ua d.aq.length d.uc,.slice d.sa d.stores.length d.sc,.slice d.ta d.aB.length d.tc,.slice d.oa d.outs.length d.oc] [i64 e2.hours,.slice e2.ra e2.aA.length e2.rc,.slice e2.ba e2.aj.length e2.bc,.slice e2.la e2.lines.length e2.lc,.slice e2.ua e2.aq.length e2.uc,.slice e2.sa e2.stores.length e2.sc,.slice e2.ta e2.aB.length e2.tc,.slice e2.oa e2.outs.length e2.oc] ym.o rfl rfl (by kernel_rfl) rfl rfl ?_;intro w9 uI jC;have U9:Hid (Cu W1 C w9 e2):=HU.o.call LZ.o Iy.o uI jC;clear uI jC;simp only [Act.put])
     exact ⟨⟨e2,U9.o⟩,by rw [U9.o.Tz,HU.o.Tz];have:=Pd.o;have:=HG.o;omega⟩
    ·have H2:=ae U
     clear U HU;go_wp2_with fail
     go_loopw [] (fun wr=> ∃d,Cu W1 C wr d) (fun wr=>rC wr C 2)
     case atStart=>exact ⟨_,H2.o⟩
     case round=>
      obtain ⟨d,U⟩:=hrel;clear H2;have k2:=(U.box.cell 2).trans (show _=some (.slice d.ba d.aj.length d.bc)from rfl);have HU:=ae U;by_cases Bk:(3:Int)<(d.aj.length:Int)
      ·have q1:2≤d.aj.length:=by omega
       have HG:=ae Bk;clear U;have mH: ∀j v,([i64 d.hours,.slice d.ra d.aA.length d.rc,.slice d.ba d.aj.length d.bc,.slice d.la d.lines.length d.lc,.slice d.ua d.aq.length d.uc,.slice d.sa d.stores.length d.sc,.slice d.ta d.aB.length d.tc,.slice d.oa d.outs.length d.oc])[j]?=some v→wr.cell? ((⟨C,0,none⟩:Addr).add j)=some v:=fun j v hj=>by rw [cF,HU.o.box.cell j];exact hj
       go_wp2_with (refine aT rfl 32 _ rfl ⟨C,0,none⟩ rfl [i64 d.hours,.slice d.ra d.aA.length d.rc,.slice d.ba d.aj.length d.bc,.slice d.la d.lines.length d.lc,.slice d.ua d.aq.length d.uc,.slice d.sa d.stores.length d.sc,.slice d.ta d.aB.length d.tc,.slice d.oa d.outs.length d.oc] _ mH rfl rfl (by kernel_rfl) ?_)
       refine (DY W1 wr d [C] HU.o.cs HU.o.lt HU.o.iK q1).mono ?_;rintro e w5 ⟨e2,rfl,Fs,hs5,Fu,TD,vQ⟩;have Bi:=vQ.arr HU.o.box HU.o.off;have ym:=ae Bi;have LZ:=ae Fs;have Iy:=ae hs5;have Pd:=ae Fu
       clear mH Bi Fs hs5 Fu vQ TD;rw [show e2.cells= [i64 e2.hours,.slice e2.ra e2.aA.length e2.rc,.slice e2.ba e2.aj.length e2.bc,.slice e2.la e2.lines.length e2.lc,.slice e2.ua e2.aq.length e2.uc,.slice e2.sa e2.stores.length e2.sc,.slice e2.ta e2.aB.length e2.tc,.slice e2.oa e2.outs.length e2.oc]from rfl];go_wp2_with (refine bp rfl 32 _ _ rfl C [i64 d.hours,.slice d.ra d.aA.length d.rc,.slice d.ba d.aj.length d.bc,.slice d.la d.lines.length d.lc,.slice d.ua d.aq.length d.uc,.slice d.sa d.stores.length d.sc,.slice d.ta d.aB.length d.tc,.slice d.oa d.outs.length d.oc] [i64 e2.hours,.slice e2.ra e2.aA.length e2.rc,.slice e2.ba e2.aj.length e2.bc,.slice e2.la e2.lines.length e2.lc,.slice e2.ua e2.aq.length e2.uc,.slice e2.sa e2.stores.length e2.sc,.slice e2.ta e2.aB.length e2.tc,.slice e2.oa e2.outs.length e2.oc] ym.o rfl rfl (by kernel_rfl) rfl rfl ?_;intro w9 uI jC;have U9:Hid (Cu W1 C w9 e2):=HU.o.call LZ.o Iy.o uI jC;clear uI jC;simp only [Act.put])
       exact ⟨⟨e2,U9.o⟩,by rw [U9.o.Tx,HU.o.Tx];have:=Pd.o;have:=HG.o;omega⟩
      ·have H3:=ae U
       clear U HU;go_wp2_with fail
       go_loopw [] (fun wr=> ∃d,Cu W1 C wr d) (fun wr=>rC wr C 3)
       case atStart=>exact ⟨_,H3.o⟩
       case round=>
        obtain ⟨d,U⟩:=hrel;clear H3;have k3:=(U.box.cell 3).trans (show _=some (.slice d.la d.lines.length d.lc)from rfl);have HU:=ae U;by_cases Bk:(4:Int)<(d.lines.length:Int)
        ·obtain ⟨ln,IE⟩: ∃ln:Nat,d.lines.length=ln+1:=⟨d.lines.length-1,by omega⟩;have lD:=ae IE;clear IE;have q1:ln<d.lines.length:=Nat.lt_of_lt_of_eq (Nat.lt_succ_self ln) lD.o.symm;have q2:wrap64 ((d.lines.length:Int)-1)=(ln:Int):=by(have q3:=HU.o.iK.small;have q4:=lD.o;unfold wrap64;omega)
         have HG:=ae Bk;clear U;have mH: ∀j v,([i64 d.hours,.slice d.ra d.aA.length d.rc,.slice d.ba d.aj.length d.bc,.slice d.la d.lines.length d.lc,.slice d.ua d.aq.length d.uc,.slice d.sa d.stores.length d.sc,.slice d.ta d.aB.length d.tc,.slice d.oa d.outs.length d.oc])[j]?=some v→wr.cell? ((⟨C,0,none⟩:Addr).add j)=some v:=fun j v hj=>by rw [cF,HU.o.box.cell j];exact hj
         go_wp2_with (refine aT rfl 32 _ rfl ⟨C,0,none⟩ rfl [i64 d.hours,.slice d.ra d.aA.length d.rc,.slice d.ba d.aj.length d.bc,.slice d.la d.lines.length d.lc,.slice d.ua d.aq.length d.uc,.slice d.sa d.stores.length d.sc,.slice d.ta d.aB.length d.tc,.slice d.oa d.outs.length d.oc] _ mH rfl rfl (by kernel_rfl) ?_)
         refine (tT W1 wr d ln [C] HU.o.cs HU.o.lt HU.o.iK q1).mono ?_;rintro e w5 ⟨e2,rfl,Fs,hs5,JI,Fu,TD,JY,vQ⟩;have Bi:=vQ.arr HU.o.box HU.o.off;have ym:=ae Bi;have LZ:=ae Fs;have Iy:=ae hs5;have Pd:=ae Fu
         clear mH Bi Fs hs5 Fu vQ JI TD JY;rw [show e2.cells= [i64 e2.hours,.slice e2.ra e2.aA.length e2.rc,.slice e2.ba e2.aj.length e2.bc,.slice e2.la e2.lines.length e2.lc,.slice e2.ua e2.aq.length e2.uc,.slice e2.sa e2.stores.length e2.sc,.slice e2.ta e2.aB.length e2.tc,.slice e2.oa e2.outs.length e2.oc]from rfl];go_wp2_with (refine bp rfl 32 _ _ rfl C [i64 d.hours,.slice d.ra d.aA.length d.rc,.slice d.ba d.aj.length d.bc,.slice d.la d.lines.length d.lc,.slice d.ua d.aq.length d.uc,.slice d.sa d.stores.length d.sc,.slice d.ta d.aB.length d.tc,.slice d.oa d.outs.length d.oc] [i64 e2.hours,.slice e2.ra e2.aA.length e2.rc,.slice e2.ba e2.aj.length e2.bc,.slice e2.la e2.lines.length e2.lc,.slice e2.ua e2.aq.length e2.uc,.slice e2.sa e2.stores.length e2.sc,.slice e2.ta e2.aB.length e2.tc,.slice e2.oa e2.outs.length e2.oc] ym.o rfl rfl (by kernel_rfl) rfl rfl ?_;intro w9 uI jC;have U9:Hid (Cu W1 C w9 e2):=HU.o.call LZ.o Iy.o uI jC;clear uI jC;simp only [Act.put])
         exact ⟨⟨e2,U9.o⟩,by rw [U9.o.Ty,HU.o.Ty];have:=Pd.o;have:=HG.o;omega⟩
        ·have H4:=ae U
         clear U HU;obtain ⟨ao,hao⟩: ∃ao,d.oa=ao:=⟨_,rfl⟩;have k7:=(H4.o.box.cell 7).trans (show _=some (.slice d.oa d.outs.length d.oc)from rfl);rw [hao]at k7;have HAO:=ae hao;have f7:=H4.o.box.frozen 7;go_upto_region 12 with fail
         have HL0:Hid (Cl W1 C d (wr.setCell ⟨C,7,none⟩ (.slice none 0 0)) [] none 0):=
             ⟨H4.o.cs.but ((ar.refl C wr).eL (o:=7)) (by simp) H4.o.pos,H4.o.box.set 7 _,⟨by simp,by simp,fun i hi=>by simp at hi⟩,fun o ho=>by simp at ho,(fun p e=>nomatch e),fun _=>⟨rfl,rfl⟩,H4.o.iK,H4.o.pos,by simp⟩
         generalize World.setCell wr ⟨C,7,none⟩ _=W6 at*;clear k7 f7 H4 hao;go_wp2_with fail
         go_loopw [5] (fun iv wr=> ∃(i:Nat) (os:List aY) (ga:Option Addr) (gc:Nat),i≤d.outs.length∧os.length≤2∧Cl W1 C d wr os ga gc∧iv= .int .i64 (i:Int)) (fun iv _=>d.outs.length-(intOf iv).toNat)
         case atStart=>exact ⟨0,[],none,0,by omega,by simp,HL0.o,rfl⟩
         case round=>
             obtain ⟨i,os,ga,gc,hi,h2,hL,rfl⟩:=hrel;clear HL0;have k7:wr.cell? ⟨C,7,none⟩=some (.slice ga os.length gc):=(hL.box.cell 7).trans rfl;have HL:=ae hL;have H2:=ae h2;have Rc:=ae hi
             have kg:=ae hL.iK.small;clear hL h2 hi;by_cases hlt:(i:Int)<(d.outs.length:Int)
             ·by_cases hs2:(os.length:Int)<2
              ·have HI:=ae hlt;have Aw:=ae hs2
               have mH: ∀j v,([i64 d.hours,.slice d.ra d.aA.length d.rc,.slice d.ba d.aj.length d.bc,.slice d.la d.lines.length d.lc,.slice d.ua d.aq.length d.uc,.slice d.sa d.stores.length d.sc,.slice d.ta d.aB.length d.tc,.slice ga os.length gc])[j]?=some v→wr.cell? ((⟨C,0,none⟩:Addr).add j)=some v:=fun j v hj=>by rw [cF,HL.o.box.cell j];exact hj
               go_upto_region 16 with(first|(refine aT rfl 32 _ rfl ⟨C,0,none⟩ rfl [i64 d.hours,.slice d.ra d.aA.length d.rc,.slice d.ba d.aj.length d.bc,.slice d.la d.lines.length d.lc,.slice d.ua d.aq.length d.uc,.slice d.sa d.stores.length d.sc,.slice d.ta d.aB.length d.tc,.slice ga os.length gc] _ mH rfl rfl (by kernel_rfl) ?_)|(refine dR rfl 32 _ _ rfl lS.cells [i64 d.hours,.slice d.ra d.aA.length d.rc,.slice d.ba d.aj.length d.bc,.slice d.la d.lines.length d.lc,.slice d.ua d.aq.length d.uc,.slice d.sa d.stores.length d.sc,.slice d.ta d.aB.length d.tc,.slice ga os.length gc] rfl rfl (by kernel_rfl) rfl rfl ?_))
               generalize hW2:World.alloc wr _=W2;obtain ⟨KD,O7,x2,A2⟩:=bX hW2;rw [←O7];have BV:=ae A2;have ez:=ae x2
               have df:Hid (wr.heap.size≤KD):=by show _≤_;omega
               have Nv:Hid (KD<W2.heap.size):=A2.lt;have HLW:=HL;have OU:Hid (C<KD):=Nat.lt_of_lt_of_le HL.o.box.lt df.o
               have IX:Hid (Value.int .i64 (wrap64 ((i:Int)+1))= .int .i64 ((i+1:Nat):Int)):=by
                have:=kg.o;show _=_;congr 1;unfold wrap64;omega
               replace HL:=ae (HL.o.grow x2);obtain ⟨x,hx⟩: ∃x,x=d.outs[i]'(by omega):=⟨_,rfl⟩;have hrow:=HL.o.base.ci.outs.cell i (by rw [List.length_map];omega);obtain ⟨g,o,Vs,hcell⟩:=hrow;obtain ⟨g',cur,hg',-⟩:=HL.o.base.sp.oa _ Vs;cases hg'
               have hg2:ao=some ⟨g,0,none⟩:=HAO.o.symm.trans Vs;subst hg2;have HXM:Hid (x∈d.outs):=by rw [hx];exact List.getElem_mem _
               have H8: ∀l (hl:l<4),W2.cell? ⟨g,i*4+l,none⟩=some (x.cells[l]'hl):=fun l hl=>by
                have q:=hcell l (by rw [List.getElem_map];exact hl);rw [Nat.zero_add]at q;rw [q];congr 1
                rw [hx];exact List.getElem_of_eq (List.getElem_map ..) _
               have gP:Hid (∀Z,Ext W2 Z→Z.cell? ⟨C,7,none⟩=some (.slice ga os.length gc)∧Z.cell? ⟨g,i*4,none⟩=some (.string x.name)∧Z.cell? ⟨g,i*4+1,none⟩=some (.slice x.la x.lines.length x.lc)∧Z.cell? ⟨g,i*4+2,none⟩=some (.bool x.bI)∧Z.cell? ⟨g,i*4+3,none⟩=some (.slice x.ma x.moves.length x.mc)):=fun Z xz=>
                ⟨ak xz ((HL.o.box.cell 7).trans rfl),ak xz (H8 0 (by decide)),ak xz (H8 1 (by decide)),ak xz (H8 2 (by decide)),ak xz (H8 3 (by decide))⟩
               clear hW2 O7 x2 A2 hx hcell H8 mH k7;simp only [Act.put];go_cut [] (fun wx=> ∃(g2:Option Addr) (k2:Nat),Ext wr wx∧aQ wx KD 32 [i64 d.hours,.slice d.ra d.aA.length d.rc,.slice d.ba d.aj.length d.bc,.slice d.la d.lines.length d.lc,.slice d.ua d.aq.length d.uc,.slice d.sa d.stores.length d.sc,.slice d.ta d.aB.length d.tc,.slice g2 (os.length+1) k2]∧bH wx 4 g2 k2 ((os++ [x]).map aY.cells)∧(∀p,g2=some p→KD<p.block)∧g2≠none)
               case first=>
                as_aux_lemma=>
                 refine yG (fun j=>j==11) (fun _=>True) (fun w=>w.cell? ⟨C,7,none⟩=some (.slice ga os.length gc)∧w.cell? ⟨g,i*4,none⟩=some (.string x.name)∧w.cell? ⟨g,i*4+1,none⟩=some (.slice x.la x.lines.length x.lc)∧w.cell? ⟨g,i*4+2,none⟩=some (.bool x.bI)∧w.cell? ⟨g,i*4+3,none⟩=some (.slice x.ma x.moves.length x.mc)) trivial (gP.o _ (Ext.refl W2).drew) fun s r=> ?_;have pZ:Hid (Ext W2 W2.drew):=(Ext.refl W2).drew;generalize W2.drew=Y at*;have HX:Hid (Ext Y Y):=Ext.refl Y;replace gP:Hid (∀Z,Ext Y Z→_):=fun Z x=>gP.o Z (pZ.o.trans x);replace HL:=ae (HL.o.grow pZ.o);replace ez:=ae (ez.o.trans pZ.o);replace BV:=ae (BV.o.ext pZ.o);replace Nv:Hid (KD<Y.heap.size):=Nat.lt_of_lt_of_le Nv.o pZ.o.size;clear pZ;iterate 2 refine yR 1 s r ?_
                 iterate 4 refine yR 2 s r ?_
                 refine yC2 0 8 (fun K' hK=> ?_) (fun K' hK=> ?_)
                 ·go_simp
                  obtain ⟨Y1,Fp⟩: ∃Y1,Y1=World.alloc Y (.cells #[] 87):=⟨_,rfl⟩;obtain ⟨D,hD⟩: ∃D,D=Y.heap.size:=⟨_,rfl⟩;rw [←Fp,←hD];have x1:Ext Y Y1:=by rw [Fp];exact (Ext.refl _).alloc _
                  have p9:Hid (Y1.ownsRow D 87 4 (.slice (some ⟨D,0,none⟩) 0 0) 0 []):=by rw [Fp,hD];exact ownsRow_lit _ _ 4
                  have HD:Hid (Y.heap.size≤D):=by rw [hD];exact HX.o.size
                  have yB:Hid (D≤Y1.heap.size):=by rw [hD];exact x1.size
                  replace HX:=ae (HX.o.trans x1);clear Fp hD x1;refine hK.o _ _ trivial (gP.o _ HX.o) fun s r=> ?_;clear hK;refine yC2 3 8 (fun K' hK=> ?_) (fun K' hK=> ?_)
                  ·rw [if_pos (by rfl)]
                   refine eH _ _ _ 30 rfl D 87 (.agg kx.cells.toArray) 4 72 underlying30 Tryz.info_outage rfl (by decide) (.slice (some ⟨D,0,none⟩) 0 0) 0 [] rfl p9.o ga os.length gc (os.map aY.cells).flatten rfl (fJ os).2.1 ((HL.o.grow HX.o).recs.flat (by decide) (fJ os).1) (fJ os).2.2 HL.o.nil (by have:=H2.o;omega) (by decide) yB.o ?_;intro v1 Y3 ho he hb hz hv;have wN:=ho.o;rw [Nat.zero_add,List.nil_append]at wN;obtain ⟨g1,k1,rfl⟩:=fg wN;have GZ:Hid (aJ Y3 D 87 4 (.slice g1 os.length k1) (os.map aY.cells)):=⟨by rw [List.length_map];exact wN,(fJ os).1⟩;replace HX:=ae (he.o Y HX.o HD.o);replace yB:=ae (Nat.le_trans yB.o hz.o);clear ho wN he hb hz hv p9;refine hK.o _ _ trivial (gP.o _ HX.o) fun s r=> ?_;clear hK;refine yC 8 fun K' hK=> ?_;rw [if_pos (by rfl)];refine dL 30 (.tmp 59) rfl 87 (.agg kx.cells.toArray) 4 72 underlying30 Tryz.info_outage (by decide) (by decide) x.cells rfl rfl ?_;intro Y8 mj x2;obtain ⟨B8,Nw⟩: ∃B8,B8=Y3.heap.size:=⟨_,rfl⟩;rw [←Nw]at mj⊢;have HB:=ae mj;replace GZ:=ae (GZ.o.ext x2);replace yB:=ae (Nat.le_trans yB.o x2.size);replace HX:=ae (HX.o.trans x2);clear Nw mj x2;refine hK.o _ _ trivial (gP.o _ HX.o) fun s r=> ?_;clear hK;refine yC 9 fun K' hK=> ?_;rw [if_pos (by rfl)];refine dO _ _ _ 30 rfl D 87 (.agg kx.cells.toArray) 4 72 underlying30 Tryz.info_outage rfl (by decide) (.slice g1 os.length k1) os.length (os.map aY.cells).flatten rfl (by have h5:=GZ.o.own;rw [List.length_map]at h5;exact h5) B8 x.cells rfl rfl HB.o rfl (by have:=H2.o;omega) (by decide) yB.o ?_;intro v1 Y9 ho he hb hz hv;obtain ⟨g2,k2,rfl⟩:=fg ho.o
                   have Gu:Hid (aJ Y9 D 87 4 (.slice g2 (os.length+1) k2) ((os++ [x]).map aY.cells)):=by
                       rw [show(os++ [x]).map aY.cells=os.map aY.cells++ [x.cells] by simp];exact GZ.o.snoc rfl (by rw [List.length_map];exact ho.o)
                   replace HX:=ae (he.o Y HX.o HD.o);clear ho he hb hz hv GZ yB HB;refine hK.o _ _ trivial (gP.o _ HX.o) fun s r=> ?_;clear hK;refine yT 0 s r ?_;refine yZ 11 fun K' hK=> ?_;have f7:=(BV.o.ext HX.o).frozen 7;have c7:=((BV.o.ext HX.o).cell 7).trans (show _=some (.slice ga os.length gc)from rfl);go_simp;have HA:=(BV.o.ext HX.o).set 7 (.slice g2 (os.length+1) k2);have HE:Ext wr (Y9.setCell ⟨KD,7,none⟩ (.slice g2 (os.length+1) k2)):=(ez.o.trans HX.o).setCell df.o _
                   have HR:bH (Y9.setCell ⟨KD,7,none⟩ (.slice g2 (os.length+1) k2)) 4 g2 k2 ((os++ [x]).map aY.cells):=by
                       obtain ⟨ra,rc,kK,su,-⟩:=Gu.o.recs (by decide);rw [List.length_map,List.length_append]at kK;simp only [Value.slice.injEq,true_and]at kK;obtain ⟨rfl,-,rfl⟩:=kK;exact su.but ((ar.refl KD Y9).eL (o:=7)) fun p e=>by have:=js Gu.o p e;have:=HD.o;have:=Nv.o;omega
                   have KR: ∀p,g2=some p→KD<p.block:=fun p e=>by have:=js Gu.o p e;have:=HD.o;have:=Nv.o;omega
                   have yj:g2≠none:=fun e=>by
                       obtain ⟨b,o,q,-⟩:=HR.cell 0 (by rw [List.length_map,List.length_append];simp);rw [e]at q;cases q
                   refine hK.o _ _ trivial fun s=> ?_;clear hK r f7 c7 s;refine yD ?_;go_wp2_with fail
                   go_meet
                   exact ⟨g2,k2,HE,HA,HR,KR,yj⟩
                  ·rw [if_pos (by rfl)]
                   refine dL 30 (.tmp 59) rfl 87 (.agg kx.cells.toArray) 4 72 underlying30 Tryz.info_outage (by decide) (by decide) x.cells rfl rfl ?_;intro Y8 mj x2;obtain ⟨B8,Nw⟩: ∃B8,B8=Y1.heap.size:=⟨_,rfl⟩;rw [←Nw]at mj⊢;have HB:=ae mj;have TE:Hid (B8≠D):=by have:=(p9.o.lt D rfl).2;show _≠_;omega
                   replace p9:=ae (bW p9.o x2);replace yB:=ae (Nat.le_trans yB.o x2.size);replace HX:=ae (HX.o.trans x2);clear Nw mj x2;refine hK.o _ _ trivial (gP.o _ HX.o) fun s r=> ?_;clear hK;refine yC 3 fun K' hK=> ?_;rw [if_pos (by rfl)];refine eH _ _ _ 30 rfl D 87 (.agg kx.cells.toArray) 4 72 underlying30 Tryz.info_outage rfl (by decide) (.slice (some ⟨D,0,none⟩) 0 0) 0 [] rfl p9.o ga os.length gc (os.map aY.cells).flatten rfl (fJ os).2.1 ((HL.o.grow HX.o).recs.flat (by decide) (fJ os).1) (fJ os).2.2 HL.o.nil (by have:=H2.o;omega) (by decide) yB.o ?_;intro v1 Y3 ho he hb hz hv;replace HB:=ae (HB.o.keep (hb.o B8 HB.o.lt (by intro e;cases e;exact TE.o rfl)));clear TE;have wN:=ho.o;rw [Nat.zero_add,List.nil_append]at wN;obtain ⟨g1,k1,rfl⟩:=fg wN;have GZ:Hid (aJ Y3 D 87 4 (.slice g1 os.length k1) (os.map aY.cells)):=⟨by rw [List.length_map];exact wN,(fJ os).1⟩;replace HX:=ae (he.o Y HX.o HD.o);replace yB:=ae (Nat.le_trans yB.o hz.o);clear ho wN he hb hz hv p9;refine hK.o _ _ trivial (gP.o _ HX.o) fun s r=> ?_;clear hK;refine yC 9 fun K' hK=> ?_;rw [if_pos (by rfl)];refine dO _ _ _ 30 rfl D 87 (.agg kx.cells.toArray) 4 72 underlying30 Tryz.info_outage rfl (by decide) (.slice g1 os.length k1) os.length (os.map aY.cells).flatten rfl (by have h5:=GZ.o.own;rw [List.length_map]at h5;exact h5) B8 x.cells rfl rfl HB.o rfl (by have:=H2.o;omega) (by decide) yB.o ?_;intro v1 Y9 ho he hb hz hv;obtain ⟨g2,k2,rfl⟩:=fg ho.o
                   have Gu:Hid (aJ Y9 D 87 4 (.slice g2 (os.length+1) k2) ((os++ [x]).map aY.cells)):=by
                       rw [show(os++ [x]).map aY.cells=os.map aY.cells++ [x.cells] by simp];exact GZ.o.snoc rfl (by rw [List.length_map];exact ho.o)
                   replace HX:=ae (he.o Y HX.o HD.o);clear ho he hb hz hv GZ yB HB;refine hK.o _ _ trivial (gP.o _ HX.o) fun s r=> ?_;clear hK;refine yT 0 s r ?_;refine yZ 11 fun K' hK=> ?_;have f7:=(BV.o.ext HX.o).frozen 7;have c7:=((BV.o.ext HX.o).cell 7).trans (show _=some (.slice ga os.length gc)from rfl);go_simp;have HA:=(BV.o.ext HX.o).set 7 (.slice g2 (os.length+1) k2);have HE:Ext wr (Y9.setCell ⟨KD,7,none⟩ (.slice g2 (os.length+1) k2)):=(ez.o.trans HX.o).setCell df.o _
                   have HR:bH (Y9.setCell ⟨KD,7,none⟩ (.slice g2 (os.length+1) k2)) 4 g2 k2 ((os++ [x]).map aY.cells):=by
                       obtain ⟨ra,rc,kK,su,-⟩:=Gu.o.recs (by decide);rw [List.length_map,List.length_append]at kK;simp only [Value.slice.injEq,true_and]at kK;obtain ⟨rfl,-,rfl⟩:=kK;exact su.but ((ar.refl KD Y9).eL (o:=7)) fun p e=>by have:=js Gu.o p e;have:=HD.o;have:=Nv.o;omega
                   have KR: ∀p,g2=some p→KD<p.block:=fun p e=>by have:=js Gu.o p e;have:=HD.o;have:=Nv.o;omega
                   have yj:g2≠none:=fun e=>by
                       obtain ⟨b,o,q,-⟩:=HR.cell 0 (by rw [List.length_map,List.length_append];simp);rw [e]at q;cases q
                   refine hK.o _ _ trivial fun s=> ?_;clear hK r f7 c7 s;refine yD ?_;go_wp2_with fail
                   go_meet
                   exact ⟨g2,k2,HE,HA,HR,KR,yj⟩
                 ·rw [if_pos (by rfl)]
                  refine dL 30 (.tmp 59) rfl 87 (.agg kx.cells.toArray) 4 72 underlying30 Tryz.info_outage (by decide) (by decide) x.cells rfl rfl ?_;intro Y8 mj x2;obtain ⟨B8,Nw⟩: ∃B8,B8=Y.heap.size:=⟨_,rfl⟩;rw [←Nw]at mj⊢;have HB:=ae mj;replace HX:=ae (HX.o.trans x2);clear Nw mj x2;refine hK.o _ _ trivial (gP.o _ HX.o) fun s r=> ?_;clear hK;refine yC 0 fun K' hK=> ?_;go_simp;obtain ⟨Y1,Fp⟩: ∃Y1,Y1=World.alloc Y8 (.cells #[] 87):=⟨_,rfl⟩;obtain ⟨D,hD⟩: ∃D,D=Y8.heap.size:=⟨_,rfl⟩;rw [←Fp,←hD];have x1:Ext Y8 Y1:=by rw [Fp];exact (Ext.refl _).alloc _
                  have p9:Hid (Y1.ownsRow D 87 4 (.slice (some ⟨D,0,none⟩) 0 0) 0 []):=by rw [Fp,hD];exact ownsRow_lit _ _ 4
                  have HD:Hid (Y.heap.size≤D):=by rw [hD];exact HX.o.size
                  have yB:Hid (D≤Y1.heap.size):=by rw [hD];exact x1.size
                  have TE:Hid (B8≠D):=by have:=HB.o.lt;show _≠_;omega
                  replace HB:=ae (HB.o.ext x1);replace HX:=ae (HX.o.trans x1);clear Fp hD x1;refine hK.o _ _ trivial (gP.o _ HX.o) fun s r=> ?_;clear hK;refine yC 3 fun K' hK=> ?_;rw [if_pos (by rfl)];refine eH _ _ _ 30 rfl D 87 (.agg kx.cells.toArray) 4 72 underlying30 Tryz.info_outage rfl (by decide) (.slice (some ⟨D,0,none⟩) 0 0) 0 [] rfl p9.o ga os.length gc (os.map aY.cells).flatten rfl (fJ os).2.1 ((HL.o.grow HX.o).recs.flat (by decide) (fJ os).1) (fJ os).2.2 HL.o.nil (by have:=H2.o;omega) (by decide) yB.o ?_;intro v1 Y3 ho he hb hz hv;replace HB:=ae (HB.o.keep (hb.o B8 HB.o.lt (by intro e;cases e;exact TE.o rfl)));clear TE;have wN:=ho.o;rw [Nat.zero_add,List.nil_append]at wN;obtain ⟨g1,k1,rfl⟩:=fg wN;have GZ:Hid (aJ Y3 D 87 4 (.slice g1 os.length k1) (os.map aY.cells)):=⟨by rw [List.length_map];exact wN,(fJ os).1⟩;replace HX:=ae (he.o Y HX.o HD.o);replace yB:=ae (Nat.le_trans yB.o hz.o);clear ho wN he hb hz hv p9;refine hK.o _ _ trivial (gP.o _ HX.o) fun s r=> ?_;clear hK;refine yC 9 fun K' hK=> ?_;rw [if_pos (by rfl)];refine dO _ _ _ 30 rfl D 87 (.agg kx.cells.toArray) 4 72 underlying30 Tryz.info_outage rfl (by decide) (.slice g1 os.length k1) os.length (os.map aY.cells).flatten rfl (by have h5:=GZ.o.own;rw [List.length_map]at h5;exact h5) B8 x.cells rfl rfl HB.o rfl (by have:=H2.o;omega) (by decide) yB.o ?_;intro v1 Y9 ho he hb hz hv;obtain ⟨g2,k2,rfl⟩:=fg ho.o
                  have Gu:Hid (aJ Y9 D 87 4 (.slice g2 (os.length+1) k2) ((os++ [x]).map aY.cells)):=by
                       rw [show(os++ [x]).map aY.cells=os.map aY.cells++ [x.cells] by simp];exact GZ.o.snoc rfl (by rw [List.length_map];exact ho.o)
                  replace HX:=ae (he.o Y HX.o HD.o);clear ho he hb hz hv GZ yB HB;refine hK.o _ _ trivial (gP.o _ HX.o) fun s r=> ?_;clear hK;refine yT 0 s r ?_;refine yZ 11 fun K' hK=> ?_;have f7:=(BV.o.ext HX.o).frozen 7;have c7:=((BV.o.ext HX.o).cell 7).trans (show _=some (.slice ga os.length gc)from rfl);go_simp;have HA:=(BV.o.ext HX.o).set 7 (.slice g2 (os.length+1) k2);have HE:Ext wr (Y9.setCell ⟨KD,7,none⟩ (.slice g2 (os.length+1) k2)):=(ez.o.trans HX.o).setCell df.o _
                  have HR:bH (Y9.setCell ⟨KD,7,none⟩ (.slice g2 (os.length+1) k2)) 4 g2 k2 ((os++ [x]).map aY.cells):=by
                       obtain ⟨ra,rc,kK,su,-⟩:=Gu.o.recs (by decide);rw [List.length_map,List.length_append]at kK;simp only [Value.slice.injEq,true_and]at kK;obtain ⟨rfl,-,rfl⟩:=kK;exact su.but ((ar.refl KD Y9).eL (o:=7)) fun p e=>by have:=js Gu.o p e;have:=HD.o;have:=Nv.o;omega
                  have KR: ∀p,g2=some p→KD<p.block:=fun p e=>by have:=js Gu.o p e;have:=HD.o;have:=Nv.o;omega
                  have yj:g2≠none:=fun e=>by
                       obtain ⟨b,o,q,-⟩:=HR.cell 0 (by rw [List.length_map,List.length_append];simp);rw [e]at q;cases q
                  refine hK.o _ _ trivial fun s=> ?_;clear hK r f7 c7 s;refine yD ?_;go_wp2_with fail
                  go_meet
                  exact ⟨g2,k2,HE,HA,HR,KR,yj⟩
               case rest=>
                obtain ⟨g2,k2,hE,hA,hR,hG2,TF⟩:=hcut;have HE:=ae hE;have HA:=ae hA;have HR:=ae hR;have KR:=ae hG2;have yj:=ae TF
                clear hE hA hR hG2 TF HL ez BV;have Jr:=ae (HLW.o.grow HE.o);clear HLW;have nS:Hid ((os++ [x]).length=os.length+1):=List.length_append
                have Dj:Hid (∀o∈os++ [x],o∈d.outs):=fun o ho=>by
                 rcases List.mem_append.1 ho with q|q
                 ·exact Jr.o.sub o q
                 ·rw [List.mem_singleton]at q;rw [q];exact HXM.o
                obtain ⟨os2,rv⟩: ∃os2,os2=os++ [x]:=⟨_,rfl⟩;rw [←rv]at nS Dj HR;clear rv;have f_:Hid (a_ wc {d with oa:=g2,oc:=k2,outs:=os2}):={Jr.o.base.ci with outs:=HR.o,o:=fun o ho=>Jr.o.base.ci.o o (Dj.o o ho)}
                have lD:Hid (oA {d with oa:=g2,oc:=k2,outs:=os2}):=by
                 have q:=Jr.o.iK.lens;exact {q with outs:=by have:=nS.o;have:=H2.o;show os2.length≤_;omega,moves:=fun o ho=>q.moves o (Dj.o o ho)}
                replace HA:Hid (aQ wc KD 32 ({d with oa:=g2,oc:=k2,outs:=os2}:ai).cells):=by have q:=HA.o;rw [←nS.o]at q;exact q
                have EO: ∀j v,([i64 d.hours,.slice d.ra d.aA.length d.rc,.slice d.ba d.aj.length d.bc,.slice d.la d.lines.length d.lc,.slice d.ua d.aq.length d.uc,.slice d.sa d.stores.length d.sc,.slice d.ta d.aB.length d.tc,.slice g2 os2.length k2])[j]?=some v→wc.cell? ((⟨KD,0,none⟩:Addr).add j)=some v:=fun j v hj=>by rw [cF,HA.o.cell j];exact hj
                go_wp2_with (refine aT rfl 32 _ rfl ⟨KD,0,none⟩ rfl [i64 d.hours,.slice d.ra d.aA.length d.rc,.slice d.ba d.aj.length d.bc,.slice d.la d.lines.length d.lc,.slice d.ua d.aq.length d.uc,.slice d.sa d.stores.length d.sc,.slice d.ta d.aB.length d.tc,.slice g2 os2.length k2] _ EO rfl rfl (by kernel_rfl) ?_)
                refine (JW wc {d with oa:=g2,oc:=k2,outs:=os2} f_.o lD.o).mono ?_;rintro e w6 ⟨rfl,x6⟩;have Ay:=ae x6;obtain ⟨gb,hgb⟩: ∃gb,gb=(dW {d with oa:=g2,oc:=k2,outs:=os2}==0):=⟨_,rfl⟩;rw [←hgb];clear hgb EO x6;cases gb
                ·go_wp2_with fail
                 exact ⟨⟨i+1,os,ga,gc,by have:=HI.o;omega,H2.o,Jr.o.grow Ay.o,IX.o⟩,by rw [IX.o];have:=HI.o;simp only [intOf];omega⟩
                ·have hXJ: ∀j v,([i64 d.hours,.slice d.ra d.aA.length d.rc,.slice d.ba d.aj.length d.bc,.slice d.la d.lines.length d.lc,.slice d.ua d.aq.length d.uc,.slice d.sa d.stores.length d.sc,.slice d.ta d.aB.length d.tc,.slice g2 os2.length k2])[j]?=some v→w6.cell? ((⟨KD,0,none⟩:Addr).add j)=some v:=fun j v hj=>by rw [cF,(HA.o.ext Ay.o).cell j];exact hj
                 have HC6:=ae (Jr.o.grow Ay.o).box;go_wp2_with (first|(refine aT rfl 32 _ rfl ⟨KD,0,none⟩ rfl [i64 d.hours,.slice d.ra d.aA.length d.rc,.slice d.ba d.aj.length d.bc,.slice d.la d.lines.length d.lc,.slice d.ua d.aq.length d.uc,.slice d.sa d.stores.length d.sc,.slice d.ta d.aB.length d.tc,.slice g2 os2.length k2] _ hXJ rfl rfl (by kernel_rfl) ?_)|(refine bp rfl 32 _ _ rfl C [i64 d.hours,.slice d.ra d.aA.length d.rc,.slice d.ba d.aj.length d.bc,.slice d.la d.lines.length d.lc,.slice d.ua d.aq.length d.uc,.slice d.sa d.stores.length d.sc,.slice d.ta d.aB.length d.tc,.slice ga os.length gc] [i64 d.hours,.slice d.ra d.aA.length d.rc,.slice d.ba d.aj.length d.bc,.slice d.la d.lines.length d.lc,.slice d.ua d.aq.length d.uc,.slice d.sa d.stores.length d.sc,.slice d.ta d.aB.length d.tc,.slice g2 os2.length k2] HC6.o rfl rfl (by kernel_rfl) rfl rfl ?_;intro YP YQ nX;simp only [Act.put]))
                 exact ⟨⟨i+1,os2,g2,k2,by have:=HI.o;omega,by have:=nS.o;have:=Aw.o;omega,(Jr.o.grow Ay.o).next (os2:=os2) (g2:=g2) (k2:=k2) nX YQ (HR.o.ext Ay.o) Dj.o (fun p e=>by have:=KR.o p e;have:=OU.o;omega) (fun e=>absurd e yj.o) (by have:=nS.o;have:=Aw.o;omega),IX.o⟩,by rw [IX.o];have:=HI.o;simp only [intOf];omega⟩
              ·have mH: ∀j v,([i64 d.hours,.slice d.ra d.aA.length d.rc,.slice d.ba d.aj.length d.bc,.slice d.la d.lines.length d.lc,.slice d.ua d.aq.length d.uc,.slice d.sa d.stores.length d.sc,.slice d.ta d.aB.length d.tc,.slice ga os.length gc])[j]?=some v→wr.cell? ((⟨C,0,none⟩:Addr).add j)=some v:=fun j v hj=>by rw [cF,HL.o.box.cell j];exact hj
               have YR:=ae (JX.o.ext HL.o.base.ext);go_wp2_with (first|(refine aT rfl 32 _ rfl ⟨C,0,none⟩ rfl [i64 d.hours,.slice d.ra d.aA.length d.rc,.slice d.ba d.aj.length d.bc,.slice d.la d.lines.length d.lc,.slice d.ua d.aq.length d.uc,.slice d.sa d.stores.length d.sc,.slice d.ta d.aB.length d.tc,.slice ga os.length gc] _ mH rfl rfl (by kernel_rfl) ?_)|(refine bp rfl 32 _ _ rfl R lS.cells [i64 d.hours,.slice d.ra d.aA.length d.rc,.slice d.ba d.aj.length d.bc,.slice d.la d.lines.length d.lc,.slice d.ua d.aq.length d.uc,.slice d.sa d.stores.length d.sc,.slice d.ta d.aB.length d.tc,.slice ga os.length gc] YR.o rfl rfl (by kernel_rfl) rfl rfl ?_;intro qO kZ dI))
               refine bodyPost_ret (v:= .agg ([i64 d.hours,.slice d.ra d.aA.length d.rc,.slice d.ba d.aj.length d.bc,.slice d.la d.lines.length d.lc,.slice d.ua d.aq.length d.uc,.slice d.sa d.stores.length d.sc,.slice d.ta d.aB.length d.tc,.slice ga os.length gc]).toArray) (fL 2 _ rfl rfl kZ rfl rfl (by kernel_rfl)) rfl ⟨{d with oa:=ga,oc:=gc,outs:=os},rfl,?_,?_,?_,?_,?_⟩
               ·exact HL.o.case.but dI (HL.o.TA Lt.o)
               ·exact HL.o.lens
               ·have:=HL.o.iK.small;show d.aq.length+d.stores.length+d.aB.length+d.aj.length≤10000;omega
               ·exact HL.o.up.mono fun b hb=>Nat.le_trans eE.o.size hb
               ·exact dI.ext (eE.o.trans HL.o.base.ext) ET.o
             ·have mH: ∀j v,([i64 d.hours,.slice d.ra d.aA.length d.rc,.slice d.ba d.aj.length d.bc,.slice d.la d.lines.length d.lc,.slice d.ua d.aq.length d.uc,.slice d.sa d.stores.length d.sc,.slice d.ta d.aB.length d.tc,.slice ga os.length gc])[j]?=some v→wr.cell? ((⟨C,0,none⟩:Addr).add j)=some v:=fun j v hj=>by rw [cF,HL.o.box.cell j];exact hj
              have YR:=ae (JX.o.ext HL.o.base.ext);go_wp2_with (first|(refine aT rfl 32 _ rfl ⟨C,0,none⟩ rfl [i64 d.hours,.slice d.ra d.aA.length d.rc,.slice d.ba d.aj.length d.bc,.slice d.la d.lines.length d.lc,.slice d.ua d.aq.length d.uc,.slice d.sa d.stores.length d.sc,.slice d.ta d.aB.length d.tc,.slice ga os.length gc] _ mH rfl rfl (by kernel_rfl) ?_)|(refine bp rfl 32 _ _ rfl R lS.cells [i64 d.hours,.slice d.ra d.aA.length d.rc,.slice d.ba d.aj.length d.bc,.slice d.la d.lines.length d.lc,.slice d.ua d.aq.length d.uc,.slice d.sa d.stores.length d.sc,.slice d.ta d.aB.length d.tc,.slice ga os.length gc] YR.o rfl rfl (by kernel_rfl) rfl rfl ?_;intro qO kZ dI))
              refine bodyPost_ret (v:= .agg ([i64 d.hours,.slice d.ra d.aA.length d.rc,.slice d.ba d.aj.length d.bc,.slice d.la d.lines.length d.lc,.slice d.ua d.aq.length d.uc,.slice d.sa d.stores.length d.sc,.slice d.ta d.aB.length d.tc,.slice ga os.length gc]).toArray) (fL 2 _ rfl rfl kZ rfl rfl (by kernel_rfl)) rfl ⟨{d with oa:=ga,oc:=gc,outs:=os},rfl,?_,?_,?_,?_,?_⟩
              ·exact HL.o.case.but dI (HL.o.TA Lt.o)
              ·exact HL.o.lens
              ·have:=HL.o.iK.small;show d.aq.length+d.stores.length+d.aB.length+d.aj.length≤10000;omega
              ·exact HL.o.up.mono fun b hb=>Nat.le_trans eE.o.size hb
              ·exact dI.ext (eE.o.trans HL.o.base.ext) ET.o
end Go.Proofs.YtkpngkdgphojlaaGreat
