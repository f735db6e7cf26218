/- Texts of the proof. -/
import Derived.Test.YtkpngkdgphojlaaGreatCc31
import Derived.Test.YtkpngkdgphojlaaGreatCc32
import Derived.Test.YtkpngkdgphojlaaGreatCc39
set_option linter.all false
namespace Go.Proofs.YtkpngkdgphojlaaGreat
open Go.RowKit
theorem xL (w:World) (b o n c k:Nat) (hk:k≤c):(Instr.slice 22 (.slice (some ⟨b,o,none⟩) n c) none (some (i64 (k:Int))) none).run Tryz.prog w= .ok (.slice (some ⟨b,o,none⟩) k c) w:=by
 have h1:(0:Int)≤(k:Int)∧(k:Int)≤(c:Int):=by omega
 simp [Instr.slice,Instr.sliceBounds,Instr.sliceBound,go_sem,asIntOf,Tryz.underlying22,h1,Addr.add];intro h;omega
theorem xM (w:World) (b o n c k:Nat) (hk:k≤n) (hn:n≤c):(Instr.slice 22 (.slice (some ⟨b,o,none⟩) n c) (some (i64 (k:Int))) none none).run Tryz.prog w= .ok (.slice (some (if c=k then⟨b,o,none⟩else⟨b,o+k,none⟩)) (n-k) (c-k)) w:=by
 have h1:(0:Int)≤(k:Int)∧(k:Int)≤(n:Int):=by omega
 simp [Instr.slice,Instr.sliceBounds,Instr.sliceBound,go_sem,asIntOf,Tryz.underlying22,h1,Addr.add];rw [if_pos hk];by_cases h2:c=k
 ·simp [h2]
 ·by_cases h3:k=0
  ·subst h3;simp
  ·simp [h2,h3]
theorem vo {P:Program} {o:Oper} {a:Act} {w:World} {t:TypeId} {x y:Operand} {u v z:Value} {e:TypeId} (hu:P.underlying t=some (.slice e)) (h:(Instr.slice t u none (some z) none).run P w= .ok v w) (ho:o.op= .slice t x none (some y) none:=by rfl) (hx:a.eval x=u:=by rfl) (hy:a.eval y=z:=by rfl):(execOp a.eval o).run P w= .ok (.value v) w:=by
 unfold execOp;simp only [ho,Option.map_none,Option.map_some,hx,hy,Instr.sliceAt,Sem.run_bind,Sem.run_pure,Result.andThen_ok,run_underlying hu,h]
theorem vp {P:Program} {o:Oper} {a:Act} {w:World} {t:TypeId} {x y:Operand} {u v z:Value} {e:TypeId} (hu:P.underlying t=some (.slice e)) (h:(Instr.slice t u (some z) none none).run P w= .ok v w) (ho:o.op= .slice t x (some y) none none:=by rfl) (hx:a.eval x=u:=by rfl) (hy:a.eval y=z:=by rfl):(execOp a.eval o).run P w= .ok (.value v) w:=by
 unfold execOp;simp only [ho,Option.map_none,Option.map_some,hx,hy,Instr.sliceAt,Sem.run_bind,Sem.run_pure,Result.andThen_ok,run_underlying hu,h]
theorem Ew {w:World} {b o c k:Nat} {l:List Int} (h:aA w (some ⟨b,o,none⟩) c l) {j:Nat} {u:Value} (hu:((l.take k).map i64)[j]?=some u):w.cell? (Addr.add ⟨b,o,none⟩ j)=some u:=by
 rw [List.getElem?_map,Option.map_eq_some_iff]at hu;obtain ⟨z,hz,rfl⟩:=hu;rw [List.getElem?_take]at hz;split at hz
 ·obtain ⟨hj,e⟩:=List.getElem?_eq_some_iff.1 hz
  obtain ⟨b',o',hb,hc⟩:=h.cell j hj;cases hb
  rw [←e,←hc];congr 1;unfold Addr.add;split<;>simp_all
 ·cases hz
theorem Ex {w:World} {b o c k:Nat} {l:List Int} (h:aA w (some ⟨b,o,none⟩) c l) {j:Nat} {u:Value} (hu:((l.drop k).map i64)[j]?=some u):w.cell? (Addr.add (if c=k then⟨b,o,none⟩else⟨b,o+k,none⟩) j)=some u:=by
 rw [List.getElem?_map,Option.map_eq_some_iff]at hu;obtain ⟨z,hz,rfl⟩:=hu;rw [List.getElem?_drop]at hz;obtain ⟨hj,e⟩:=List.getElem?_eq_some_iff.1 hz;have hle:=h.le;rw [if_neg (by omega)];obtain ⟨b',o',hb,hc⟩:=h.cell (k+j) hj;cases hb
 rw [←e,←hc];congr 1;unfold Addr.add
 split
 ·simp_all
 ·simp only [Addr.mk.injEq,and_true,true_and];omega
theorem zY (l:List Int): ∀u∈l.map i64,u.oneCell'=true:=fun u hu=>by
 obtain ⟨z,-,rfl⟩:=List.mem_map.1 hu;rfl
theorem Il {w:World} {B n:Nat} {v:Value} {xs:List Value} {l:List Int} (h:w.ownsRow B 3 1 v n xs) (hn:n=l.length) (hx:xs=l.map i64) (hl:fp l): ∃a c,v= .slice a l.length c∧aA w a c l:=by
 subst hn hx
 have hf: ∀l:List Int,(l.map fun x=> [i64 x]).flatten=l.map i64:=fun l=>by
  induction l with
  |nil=>rfl
  |cons a l ih=>simp [ih]
 have h2:aH w B 3 1 v (l.map fun x=> [i64 x]):=⟨by rw [hf,List.length_map];exact h,fun r hr=>by obtain ⟨z,-,rfl⟩:=List.mem_map.1 hr;rfl⟩;obtain ⟨a,c,e,hr,-⟩:=h2.recs (by decide);exact ⟨a,c,by rw [List.length_map]at e;exact e,aA.kn hr hl⟩
theorem Ks {c:aq} {x:cq} (hu:c.aj.length≤3) (h:cQ c x=true):x.aj.length≤3:=by
 by_cases hk:x.kind=0
 ·obtain ⟨n,k,us,-,-,e3,JO,-,-⟩:=j_ h hk
  rw [e3,aK];exact Nat.le_trans JO.le hu
 ·unfold cQ at h
  rw [if_neg hk]at h;by_cases h1:x.kind=1
  ·rw [if_pos h1]at h
   simp only [Bool.and_eq_true,decide_eq_true_eq]at h;omega
  ·rw [if_neg h1,Bool.and_false]at h;cases h
set_option maxHeartbeats 4000000 in
set_option maxRecDepth 100000 in
theorem ur (V:World) (a0:Option Addr) (c0:Nat) (l:List Int) (a1:Option Addr) (c1:Nat) (raw:List Int) (out:Int) (hl:aA V a0 c0 l) (hr:aA V a1 c1 raw) (h1: -9223372036854775808≤out) (h2:out<9223372036854775808):
 Calls Tryz.prog 4 #[.slice a0 l.length c0,.slice a1 raw.length c1,i64 out] V fun e w'=>e= .returned (.bool true)∧Ext V w':=by
 have HL:=ae hl;have HR:=ae hr;have HO:Hid (br out):=⟨h1,h2⟩
 clear hl hr h1 h2;go_enter Tryz.func4,Tryz.ntmps4
 go_wp2_with fail
 refine (zR V a0 a1 l.length raw.length c0 c1).mono ?_;rintro e w ⟨rfl,hw⟩;rw [hw];clear hw;cases (decide (l.length≤200)&&decide (raw.length≤200))with
 |false=>
  go_wp2_with fail
  go_ret;exact ⟨rfl,Ext.refl _⟩
 |true=>
  go_wp2_with fail
  refine (C5 V a0 c0 l HL.out).mono ?_;rintro e W1 ⟨hh,nb,c,rfl,hc,hm,ha,-,x1⟩;go_upto_region 4 with(refine bD rfl 32 _ _ rfl jc.cells c.cells rfl rfl (by kernel_rfl) rfl rfl ?_)
  obtain ⟨W2,hW,x2,-,A2⟩:=aB W1 32 c.cells;rw [show W1.alloc (.cells c.cells.toArray 32)=W2 from hW.symm];obtain ⟨B,hB⟩: ∃B,B=W1.heap.size:=⟨_,rfl⟩;rw [←hB]at A2⊢;have HX:=ae (x1.trans x2);have ER:=C0 W2 c a1 c1 raw (hc.ext x2) (HR.out.ext HX.out) (by have:=hm.hours;have:=hm.hr;omega) (by have:=hm.aj;omega);have kW:=ae hm.lens;have HAC:=ae ha;have dB:=ae (hc.ext x2);have HA:=ae A2;have KW:Hid (c.aj.length≤3):=hm.aj.2
  clear hW x2 A2 hB x1 hc hm ha;have ER:=ae ER;obtain ⟨k0,k1,k2,k3,k4,k5,k6,k7⟩:=aq.at HA.out;go_wp2_with fail
  refine ER.out.mono ?_;rintro e W3 ⟨ga,gc,xs,rfl,hcs,nQ,mb,x3⟩;replace HX:=ae (HX.out.trans x3);replace dB:=ae (dB.out.ext x3);replace HA:=ae (HA.out.ext x3)
  have nE:=ae hcs;have w_:=ae nQ;have DW:Hid (∀x∈xs,cQ c x=true):=fun x hx=>(mb x hx).1
  have Et:Hid (∀x∈xs,x.aj.length≤3):=fun x hx=>Ks KW.out ((mb x hx).1);clear hcs nQ mb x3 ER k0 k1 k2 k3 k4 k5 k6 k7 HL HR;have hxn:xs.length≤9223372036854775807:=by have:=w_.out;omega
  go_wp2_with fail
  go_loopw [9] (fun iv wr=> ∃i:Nat,i≤xs.length∧Ext W3 wr∧iv= .int .i64 i) (fun iv _=>xs.length-(intOf iv).toNat)
  case atStart=>exact ⟨0,Nat.zero_le _,Ext.refl _,rfl⟩
  case round=>
   obtain ⟨i,hi,hE,rfl⟩:=hrel;have HE:=ae hE;clear hE;by_cases hlt:i<xs.length
   ·have fM:(0:Int)≤(i:Int):=by omega
    have fH:(i:Int)<(xs.length:Int):=by omega
    obtain ⟨b,o,R5,hcell⟩:=(nE.out.rows.ext HE.out).adds i (by rw [List.length_map];exact hlt);obtain ⟨x,hx⟩: ∃x,x=xs[i]:=⟨_,rfl⟩;have xk: ∀j v,x.cells[j]?=some v→wr.cell? (Addr.add ⟨b,o+i*6,none⟩ j)=some v:=by rw [List.getElem_map,←hx]at hcell;exact hcell
    have HF:Hid (cQ c x=true):=by rw [hx];exact DW.out _ (List.getElem_mem hlt)
    have ZZ:Hid (x∈xs):=by show x∈xs;rw [hx];exact List.getElem_mem hlt
    have D4:Hid (x.aj.length≤3):=by rw [hx];exact Et.out _ (List.getElem_mem hlt)
    have HI:Hid (aA wr x.ua x.uc x.aj):=by rw [hx];exact (nE.out.aj _ (List.getElem_mem hlt)).ext HE.out
    rw [R5];clear hx hcell R5;go_upto_region 9 with(first|(refine aQ rfl 24 _ rfl ⟨b,o+i*6,none⟩ rfl x.cells _ xk rfl rfl (by kernel_rfl) ?_)|(refine bD rfl 24 _ _ rfl mf.cells x.cells rfl rfl (by kernel_rfl) rfl rfl ?_))
    clear xk;obtain ⟨W4,hW,x4,-,A4⟩:=aB wr 24 x.cells;rw [show wr.alloc (.cells x.cells.toArray 24)=W4 from hW.symm];obtain ⟨E,hE⟩: ∃E,E=wr.heap.size:=⟨_,rfl⟩;rw [←hE]at A4⊢;replace HE:=ae (HE.out.trans x4);replace HI:=ae (HI.out.ext x4);have HP:=ae A4
    clear hW x4 A4 hE;obtain ⟨e0,e1,e2,e3,e4,e5⟩:=cq.at HP.out;by_cases hk:x.kind=0
    ·obtain ⟨n,g1,g2,g3,g4,g5⟩:=Ec HAC.out HF.out hk
     have Cz:=ae g3;have Wx:=ae g4;have Z7:=ae g5
     have hgr:=jf W4 c x.hour x.ua x.uc x.aj (dB.out.ext HE.out) kW.out HI.out (xI dB.out HF.out);rw [g1]at hgr;dsimp only at hgr
     have IL:=ae hgr;clear g1 g3 g4 g5 hgr;have bn0:(0:Int)≤(n:Int):=by omega
     have bn1:(n:Int)≤(x.aj.length:Int):=by omega
     obtain ⟨k0,k1,k2,k3,k4,k5,k6,k7⟩:=aq.at (HA.out.ext HE.out);go_wp2_with fail
     refine IL.out.mono ?_;rintro e W5 ⟨rfl,x5⟩;replace HE:=ae (HE.out.trans x5);replace HI:=ae (HI.out.ext x5);replace HP:=ae (HP.out.ext x5)
     clear x5 IL k0 k1 k2 k3 k4 k5 k6 k7 e0 e1 e2 e3 e4 e5 hk;obtain ⟨e0,e1,e2,e3,e4,e5⟩:=cq.at HP.out;have CB:=ae HE.out;go_upto_region 13 with fail
     go_cut [13,14] (fun v13 v14 wx=> ∃Y Z:Nat,v13= .pointer (some ⟨Y,0,none⟩)∧v14= .pointer (some ⟨Z,0,none⟩)∧Y≠Z∧W5.heap.size≤Y∧W5.heap.size≤Z∧aG wx Y 24 x.cells∧aG wx Z 24 x.cells∧Ext W5 wx)
     case first=>
      as_aux_lemma=>
       have TA:=ae HP.out.lt;refine ay (fun w'=>aG w' E 24 x.cells) (fun _=>True) (fun _=>false) (by kernel_rfl) HP.out trivial (fun ar _=> ?_);obtain ⟨Y0,qJ⟩: ∃Y0,Y0=W5.drew:=⟨_,rfl⟩;have lW:Hid (Ext W5 Y0):=by rw [qJ];exact (Ext.refl W5).drew
       rw [←qJ]at ar⊢;clear qJ e0 e1 e2 e3 e4 e5;refine av 0 (.agg x.cells.toArray) rfl ar trivial ?_ (by intro w e0;exact cR 24 (.tmp 10) rfl ⟨E,0,none⟩ rfl _ _ e0.adds rfl rfl (by kernel_rfl));try simp only [sS,Act.put]
       refine av 1 (.agg x.cells.toArray) rfl ar trivial ?_ (by intro w e0;exact cR 24 (.tmp 10) rfl ⟨E,0,none⟩ rfl _ _ e0.adds rfl rfl (by kernel_rfl));try simp only [sS,Act.put]
       refine aZ (rs:= [2,3]) (by kernel_rfl) (by simp) ?_;refine aD.cons rfl (fun Kc hK=> ?_) (aD.cons rfl (fun Kc hK=> ?_) aD.nil)
       ·go_simp
        obtain ⟨Y1,hW,xa,-,AA⟩:=aB Y0 24 mf.cells;rw [show Y0.alloc (.cells #[i64 0,i64 0,.slice none 0 0,i64 0,i64 0,i64 0] 24)=Y1 from hW.symm];have Sw:=ae AA;have Sx:=ae xa
        refine hK.out _ _ (ar.ext xa) trivial (fun ar _=> ?_);clear hK Kc hW xa AA;try simp only [sS,Act.put]
        refine cG 3 rfl (fun Kc hK=> ?_);go_simp;obtain ⟨Y2,hW,xa,-,AA⟩:=aB Y1 24 mf.cells;rw [show Y1.alloc (.cells #[i64 0,i64 0,.slice none 0 0,i64 0,i64 0,i64 0] 24)=Y2 from hW.symm];have Wy:=ae AA;have Sy:=ae xa
        refine hK.out _ _ (ar.ext xa) trivial (fun ar _=> ?_);clear hK Kc hW xa AA;try simp only [sS,Act.put]
        have hs1:=Sw.out.lt;have hs0:=Sx.out.size;have HD:Hid (Y0.heap.size≠Y1.heap.size∧E≠Y0.heap.size∧E≠Y1.heap.size∧W5.heap.size≤Y0.heap.size∧W5.heap.size≤Y1.heap.size):=by(have h1:=lW.out.size;have h2:=TA.out;show _∧_∧_∧_∧_;omega)
        have Sz:Hid (aG Y2 (Y0.heap.size) 24 mf.cells∧aG Y2 (Y1.heap.size) 24 mf.cells):=⟨Sw.out.ext Sy.out,Wy.out⟩;clear hs1 hs0;refine cG 4 rfl (fun Kc hK=> ?_);rw [if_pos (by rfl)];refine ew 24 (.tmp 13) (.tmp 63) rfl (Y0.heap.size) mf.cells x.cells Sz.out.1 rfl rfl (by kernel_rfl) rfl rfl ?_;intro w7 h7 x7;refine hK.out _ _ (ar.but x7 HD.out.2.1) trivial (fun ar _=> ?_);clear hK Kc;try simp only [sS,Act.put]
        refine cG 5 rfl (fun Kc hK=> ?_);rw [if_pos (by rfl)];refine ew 24 (.tmp 14) (.tmp 64) rfl (Y1.heap.size) mf.cells x.cells (Sz.out.2.but x7 HD.out.1.symm) rfl rfl (by kernel_rfl) rfl rfl ?_;intro w8 h8 x8;refine hK.out _ _ (ar.but x8 HD.out.2.2.1) trivial (fun ar _=> ?_);clear hK Kc;try simp only [sS,Act.put]
        refine ax (by kernel_rfl) ?_ _;go_wp2_with fail
        go_meet
        exact ⟨_,_,rfl,rfl,HD.out.1,HD.out.2.2.2.1,HD.out.2.2.2.2,h7.but x8 HD.out.1,h8,x8.ext (x7.ext ((lW.out.trans Sx.out).trans Sy.out) HD.out.2.2.2.1) HD.out.2.2.2.2⟩
       ·go_simp
        obtain ⟨Y1,hW,xa,-,AA⟩:=aB Y0 24 mf.cells;rw [show Y0.alloc (.cells #[i64 0,i64 0,.slice none 0 0,i64 0,i64 0,i64 0] 24)=Y1 from hW.symm];have Sw:=ae AA;have Sx:=ae xa
        refine hK.out _ _ (ar.ext xa) trivial (fun ar _=> ?_);clear hK Kc hW xa AA;try simp only [sS,Act.put]
        refine cG 2 rfl (fun Kc hK=> ?_);go_simp;obtain ⟨Y2,hW,xa,-,AA⟩:=aB Y1 24 mf.cells;rw [show Y1.alloc (.cells #[i64 0,i64 0,.slice none 0 0,i64 0,i64 0,i64 0] 24)=Y2 from hW.symm];have Wy:=ae AA;have Sy:=ae xa
        refine hK.out _ _ (ar.ext xa) trivial (fun ar _=> ?_);clear hK Kc hW xa AA;try simp only [sS,Act.put]
        have hs1:=Sw.out.lt;have hs0:=Sx.out.size;have HD:Hid (Y1.heap.size≠Y0.heap.size∧E≠Y1.heap.size∧E≠Y0.heap.size∧W5.heap.size≤Y1.heap.size∧W5.heap.size≤Y0.heap.size):=by(have h1:=lW.out.size;have h2:=TA.out;show _∧_∧_∧_∧_;omega)
        have Sz:Hid (aG Y2 (Y1.heap.size) 24 mf.cells∧aG Y2 (Y0.heap.size) 24 mf.cells):=⟨Wy.out,Sw.out.ext Sy.out⟩;clear hs1 hs0;refine cG 4 rfl (fun Kc hK=> ?_);rw [if_pos (by rfl)];refine ew 24 (.tmp 13) (.tmp 63) rfl (Y1.heap.size) mf.cells x.cells Sz.out.1 rfl rfl (by kernel_rfl) rfl rfl ?_;intro w7 h7 x7;refine hK.out _ _ (ar.but x7 HD.out.2.1) trivial (fun ar _=> ?_);clear hK Kc;try simp only [sS,Act.put]
        refine cG 5 rfl (fun Kc hK=> ?_);rw [if_pos (by rfl)];refine ew 24 (.tmp 14) (.tmp 64) rfl (Y0.heap.size) mf.cells x.cells (Sz.out.2.but x7 HD.out.1.symm) rfl rfl (by kernel_rfl) rfl rfl ?_;intro w8 h8 x8;refine hK.out _ _ (ar.but x8 HD.out.2.2.1) trivial (fun ar _=> ?_);clear hK Kc;try simp only [sS,Act.put]
        refine ax (by kernel_rfl) ?_ _;go_wp2_with fail
        go_meet
        exact ⟨_,_,rfl,rfl,HD.out.1,HD.out.2.2.2.1,HD.out.2.2.2.2,h7.but x8 HD.out.1,h8,x8.ext (x7.ext ((lW.out.trans Sx.out).trans Sy.out) HD.out.2.2.2.1) HD.out.2.2.2.2⟩
     case rest=>
      obtain ⟨Y,Z,rfl,rfl,Wz,hY5,hZ5,hY,hZ,xc⟩:=hcut;generalize wc=W6 at*;have WA:E≠Y∧E≠Z:=by have:=HP.out.lt;omega
      replace HE:=ae (HE.out.trans xc);replace HI:=ae (HI.out.ext xc);replace HP:=ae (HP.out.ext xc)
      have hXY:=HE.out.size;have hXs:=HX.out.size;have WG:Hid (W3.heap.size≤Y∧W3.heap.size≤Z):=by(have:=CB.out.size;show _∧_;omega)
      have yc:W6.cell? ⟨Y,3,none⟩=some (i64 x.least):=hY.cell 3;have yf:=hY.frozen 3;have zc:W6.cell? ⟨Z,3,none⟩=some (i64 x.least):=hZ.cell 3;have zf:=hZ.frozen 3;have Z8:=Wz.symm;have bn3:(n:Int)≤3:=by have:=D4.out;omega
      clear e0 e1 e2 e3 e4 e5 xc hXY hXs;go_upto_region 15 with fail
      have hs1:=(ak.refl Y W6).et (o:=3) (v:=i64 (n:Int));have hs2:=(ak.refl Z (W6.setCell ⟨Y,3,none⟩ (i64 (n:Int)))).et (o:=3) (v:=i64 ((n:Int)+1));have Z9:aG ((W6.setCell ⟨Y,3,none⟩ (i64 (n:Int))).setCell ⟨Z,3,none⟩ (i64 ((n:Int)+1))) Y 24 ({x with least:=(n:Int)}:cq).cells:=(hY.set 3 (i64 (n:Int))).other _ _ Z8;have Z_:aG ((W6.setCell ⟨Y,3,none⟩ (i64 (n:Int))).setCell ⟨Z,3,none⟩ (i64 ((n:Int)+1))) Z 24 ({x with least:=(n:Int)+1}:cq).cells:=(hZ.other ⟨Y,3,none⟩ _ Wz).set 3 _;have Z':=hs2.ext (hs1.ext HE.out WG.out.1) WG.out.2;have hP7:=(HP.out.but hs1 WA.1).but hs2 WA.2;clear hs1 hs2 hY hZ yc yf zc zf Wz Z8 WA hY5 hZ5 HE HP HI WG CB;generalize (W6.setCell ⟨Y,3,none⟩ (i64 (n:Int))).setCell ⟨Z,3,none⟩ (i64 ((n:Int)+1))=W7 at*;have HE:=ae Z';have HP:=ae hP7;have HY:=ae Z9;have HZ:=ae Z_
      clear Z' hP7 Z9 Z_;go_cut [90] (fun v90 wx=>v90= .bool false∧Ext W7 wx)
      case first=>
       as_aux_lemma=>
        have HV:Hid (∀(U:World) (y:cq),Ext W7 U→y.ua=x.ua→y.uc=x.uc→y.aj=x.aj→Calls Tryz.prog 15 #[.agg (C8 c),.agg #[i64 y.kind,i64 y.hour,.slice y.ua y.aj.length y.uc,i64 y.least,i64 y.unit,i64 y.length]] U fun e w'=>e= .returned (i64 (fz c y))∧Ext U w'):=fun U y h h1 h2 h3=>pz U c y (dB.out.ext (HE.out.trans h)) kW.out (by rw [h1,h2,h3];exact (nE.out.aj x ZZ.out).ext (HE.out.trans h));obtain ⟨k0,k1,k2,k3,k4,k5,k6,k7⟩:=aq.at (HA.out.ext HE.out);obtain ⟨y0,y1,y2,y3,y4,y5⟩:=cq.at HY.out;obtain ⟨z0,z1,z2,z3,z4,z5⟩:=cq.at HZ.out;obtain ⟨-,-,e2,-,-,-⟩:=cq.at HP.out;dsimp only at y0 y1 y2 y3 y4 y5 z0 z1 z2 z3 z4 z5
        by_cases h0:0<n
        ·have nB:=HV.out W7 {x with least:=(n:Int)} (Ext.refl _) rfl rfl rfl
         rw [Cz.out h0]at nB;have S7:=ae nB;clear nB;have b0:(0:Int)<(n:Int):=by omega
         by_cases h1:n<x.aj.length
         ·have b1:(n:Int)<(x.aj.length:Int):=by omega
          have mG:=ae h1;clear h0 h1;go_wp2_with fail
          refine S7.out.mono ?_;rintro e W8 ⟨rfl,x8⟩;clear k0 k1 k2 k3 k4 k5 k6 k7 y0 y1 y2 y3 y4 y5 z0 z1 z2 z3 z4 z5 e2;obtain ⟨k0,k1,k2,k3,k4,k5,k6,k7⟩:=aq.at (HA.out.ext (HE.out.trans x8));obtain ⟨z0,z1,z2,z3,z4,z5⟩:=cq.at (HZ.out.ext x8);obtain ⟨-,-,e2,-,-,-⟩:=cq.at (HP.out.ext x8);dsimp only at z0 z1 z2 z3 z4 z5
          have hv2:=HV.out W8 {x with least:=(n:Int)+1} x8 rfl rfl rfl;rw [Wx.out mG.out]at hv2;have Hw:=ae hv2;have JN:=ae x8
          clear hv2 x8;go_wp2_with fail
          refine Hw.out.mono ?_;rintro e W9 ⟨rfl,x9⟩;clear k0 k1 k2 k3 k4 k5 k6 k7 z0 z1 z2 z3 z4 z5 e2;have Ai:=ae x9;clear x9;go_wp2_with fail
          go_meet
          exact ⟨rfl,JN.out.trans Ai.out⟩
         ·have b1: ¬(n:Int)<(x.aj.length:Int):=by omega
          clear h0 h1;go_wp2_with fail
          refine S7.out.mono ?_;rintro e W8 ⟨rfl,x8⟩;clear k0 k1 k2 k3 k4 k5 k6 k7 y0 y1 y2 y3 y4 y5 z0 z1 z2 z3 z4 z5 e2;obtain ⟨-,-,e2,-,-,-⟩:=cq.at (HP.out.ext x8);have JN:=ae x8;clear x8;go_wp2_with fail
          go_meet
          exact ⟨rfl,JN.out⟩
        ·have hn:n=0:=by omega
         subst hn;by_cases h1:0<x.aj.length
         ·have b1:(0:Int)<(x.aj.length:Int):=by omega
          have hv2:=HV.out W7 {x with least:=((0:Nat):Int)+1} (Ext.refl _) rfl rfl rfl;rw [Wx.out h1]at hv2;have Hw:=ae hv2;clear hv2 h0 h1;go_wp2_with fail
          refine Hw.out.mono ?_;rintro e W9 ⟨rfl,x9⟩;clear k0 k1 k2 k3 k4 k5 k6 k7 y0 y1 y2 y3 y4 y5 z0 z1 z2 z3 z4 z5 e2;have Ai:=ae x9;clear x9;go_wp2_with fail
          go_meet
          exact ⟨rfl,Ai.out⟩
         ·have b1: ¬(0:Int)<(x.aj.length:Int):=by omega
          clear h0 h1;go_wp2_with fail
          go_meet
          exact ⟨rfl,Ext.refl _⟩
      case rest=>
       obtain ⟨rfl,xc⟩:=hcut;generalize wc=W8 at*;replace HE:=ae (HE.out.trans xc);replace HP:=ae (HP.out.ext xc)
       clear xc HY HZ Cz Wx;obtain ⟨e0,e1,e2,e3,e4,e5⟩:=cq.at HP.out;by_cases h2:x.aj.length<2
       ·have b2:(x.aj.length:Int)<2:=by omega
        go_wp2_with fail
        exact ⟨⟨i+1,by omega,HE.out,by go_num⟩,by simp only [intOf];omega⟩
       ·have b2: ¬(x.aj.length:Int)<2:=by omega
        have KU:Hid (2≤x.aj.length):=by show _≤_;omega
        clear h2;go_wp2_with fail
        refine (yb W8 out x.aj.length HO.out.1 HO.out.2 (by omega) (by have:=D4.out;omega)).mono ?_;rintro e w9 ⟨rfl,hw⟩;rw [←hw];clear hw;have hmr:=sQ out x.aj.length (by omega);obtain ⟨k,hk⟩: ∃k:Nat,ya out x.aj.length=(k:Int):=⟨(ya out x.aj.length).toNat,by omega⟩;rw [hk]at hmr⊢;have HK:Hid (k<x.aj.length):=by show _<_;omega
        have hI:=(nE.out.aj x ZZ.out).ext HE.out;obtain ⟨b2,o2,Ol,-⟩:=hI.cell 0 (by omega);have HI:Hid (aA W8 (some ⟨b2,o2,none⟩) x.uc x.aj):=by rw [←Ol];exact hI
        have xU:=ae Ol;obtain ⟨rl,EN⟩: ∃rl,rl=x.aj.take k++x.aj.drop (k+1):=⟨_,rfl⟩;have Ga:=ae EN;clear hk hmr hI Ol EN;go_upto_region 19 with fail
        have TA:=ae HP.out.lt;clear e0 e1 e2 e3 e4 e5;refine ay (fun w'=>aG w' E 24 x.cells) (fun _=>True) (fun _=>false) (by kernel_rfl) HP.out trivial (fun ar _=> ?_);obtain ⟨Y0,qJ⟩: ∃Y0,Y0=W8.drew:=⟨_,rfl⟩;have lW:Hid (Ext W8 Y0):=by rw [qJ];exact (Ext.refl W8).drew
        rw [←qJ]at ar⊢;clear qJ;refine av 1 (.pointer (some ⟨E,2,none⟩)) rfl ar trivial ?_;try simp only [sS,Act.put]
        refine av 2 (.slice (some ⟨b2,o2,none⟩) x.aj.length x.uc) rfl ar trivial ?_ (by intro w e0;have h2:w.cell? ⟨E,2,none⟩=some (.slice (some ⟨b2,o2,none⟩) x.aj.length x.uc):=((e0.cell 2).trans rfl).trans (by show some (Value.slice x.ua x.aj.length x.uc)=_;rw [xU.out]);go_simp);try simp only [sS,Act.put]
        refine av 3 (i64 (k:Int)) rfl ar trivial ?_;try simp only [sS,Act.put]
        refine av 4 (.slice (some ⟨b2,o2,none⟩) k x.uc) rfl ar trivial ?_ (by intro w _;have h:=xL w b2 o2 x.aj.length x.uc k (by have:=HI.out.le;have:=HK.out;omega);exact vo Tryz.underlying22 h);try simp only [sS,Act.put]
        refine av 6 (.pointer (some ⟨E,2,none⟩)) rfl ar trivial ?_;try simp only [sS,Act.put]
        refine av 7 (.slice (some ⟨b2,o2,none⟩) x.aj.length x.uc) rfl ar trivial ?_ (by intro w e0;have h2:w.cell? ⟨E,2,none⟩=some (.slice (some ⟨b2,o2,none⟩) x.aj.length x.uc):=((e0.cell 2).trans rfl).trans (by show some (Value.slice x.ua x.aj.length x.uc)=_;rw [xU.out]);go_simp);try simp only [sS,Act.put]
        refine av 8 (i64 (k:Int)) rfl ar trivial ?_;try simp only [sS,Act.put]
        refine av 9 (i64 ((k:Int)+1)) rfl ar trivial ?_ (by intro w _;have h0:=HK.out;have h3:=D4.out;have h1:(0:Int)≤(k:Int):=(by omega);have h2:(k:Int)<4:=(by omega);have hw:IntKind.i64.wrap ((k:Int)+1)=(k:Int)+1:=(by rw [IntKind.wrap_i64];omega);clear h0 h3;go_simp);try simp only [sS,Act.put]
        refine av 10 (.slice (some (if x.uc=k+1 then⟨b2,o2,none⟩else⟨b2,o2+(k+1),none⟩)) (x.aj.length-(k+1)) (x.uc-(k+1))) rfl ar trivial ?_ (by intro w _;have h:=xM w b2 o2 x.aj.length x.uc (k+1) (by have:=HK.out;omega) HI.out.le;rw [show((k+1:Nat):Int)=(k:Int)+1 from by omega]at h;exact vp Tryz.underlying22 h);try simp only [sS,Act.put]
        refine cG 0 rfl (fun Kc hK=> ?_);go_simp;obtain ⟨Y1,hW,xa,-,AA⟩:=aB Y0 3 [];rw [show Y0.alloc (.cells #[] 3)=Y1 from hW.symm];have JM:Hid (Y1.ownsRow Y0.heap.size 3 1 (.slice (some ⟨Y0.heap.size,0,none⟩) 0 0) 0 []):=⟨rfl,.inr ⟨Y0.heap.size,0,#[],rfl,Nat.le_refl _,AA,Nat.le_refl _,Nat.zero_le _,rfl,rfl⟩⟩;have eK:=ae xa;refine hK.out _ _ (ar.ext xa) trivial (fun ar _=> ?_);clear hK Kc hW xa AA;try simp only [sS,Act.put]
        refine cG 5 rfl (fun Kc hK=> ?_);rw [if_pos (by rfl)];refine fZ Y1 (.tmp 100) (.tmp 104) 22 rfl Y0.heap.size 3 (.int .i64 0) 1 8 Tryz.underlying22 Tryz.info_int rfl (by decide) (.slice (some ⟨Y0.heap.size,0,none⟩) 0 0) 0 [] rfl JM.out (some ⟨b2,o2,none⟩) k x.uc ((x.aj.take k).map i64) rfl (by have:=HK.out;simp;omega) (fun ad e j u hu=>by cases e;exact Ew ((HI.out.ext lW.out).ext eK.out) hu) (zY _) (fun e=>by cases e) (by have:=HK.out;have:=D4.out;omega) (by decide) eK.out.size ?_;intro v1 Y2 ho he hb hz hv;have pn:=ae ho.out;have dC:=ae (he.out Y0 eK.out (Nat.le_refl _));have M5:=ae (Nat.le_trans eK.out.size hz.out)
        refine hK.out _ _ ((HP.out.ext lW.out).ext dC.out) trivial (fun ar _=> ?_);clear hK Kc ho he hb hz hv;try simp only [sS,Act.put]
        refine cG 11 rfl (fun Kc hK=> ?_);rw [if_pos (by rfl)];refine fZ Y2 (.tmp 105) (.tmp 110) 22 rfl Y0.heap.size 3 (.int .i64 0) 1 8 Tryz.underlying22 Tryz.info_int rfl (by decide) v1 (0+k) ([]++(x.aj.take k).map i64) rfl pn.out _ (x.aj.length-(k+1)) (x.uc-(k+1)) ((x.aj.drop (k+1)).map i64) rfl (by simp) (fun ad e j u hu=>by cases e;exact Ex ((HI.out.ext lW.out).ext dC.out) hu) (zY _) (fun e=>by cases e) (by have:=HK.out;have:=D4.out;omega) (by decide) M5.out ?_;intro v2 Y3 ho he hb hz hv
        have TB:=Il (l:=rl) ho.out (by have:=HK.out;rw [Ga.out];simp;omega) (by rw [Ga.out];simp) (fun z hz=>by
             rw [Ga.out]at hz;have hm:z∈x.aj:=by rcases List.mem_append.1 hz with h|h;exact List.mem_of_mem_take h;exact List.mem_of_mem_drop h
             obtain ⟨j,hj,rfl⟩:=List.getElem_of_mem hm;exact HI.out.OT j hj)
        have jY:=ae (he.out Y0 dC.out (Nat.le_refl _));obtain ⟨ra,rc,rfl,TB⟩:=TB;have S0:=ae TB;refine hK.out _ _ ((HP.out.ext lW.out).ext jY.out) trivial (fun ar _=> ?_);clear hK Kc ho he hb hz hv TB;try simp only [sS,Act.put]
        refine av 12 (.slice ra rl.length rc) rfl ar trivial ?_;try simp only [sS,Act.put]
        refine ax (by kernel_rfl) ?_ _;replace HE:=ae ((HE.out.trans lW.out).trans jY.out);replace HP:=ae ar
        clear ar JM pn lW eK dC jY M5 HI xU TA;obtain ⟨m,m1,m2,m3⟩:=Z7.out k HK.out KU.out;rw [←Ga.out]at m1;have hgr:=jf Y3 c x.hour ra rc rl (dB.out.ext HE.out) kW.out S0.out (xI dB.out HF.out);rw [m1]at hgr;dsimp only at hgr
        have IL:=ae hgr;have bm2:(m:Int)≤(n:Int):=by omega
        have bm3:(n:Int)-1≤(m:Int):=by omega
        clear hgr m1 m2 m3 Z7;obtain ⟨k0,k1,k2,k3,k4,k5,k6,k7⟩:=aq.at (HA.out.ext HE.out);obtain ⟨-,e1,-,-,-,-⟩:=cq.at HP.out;go_wp2_with fail
        all_goals
             refine IL.out.mono ?_;rintro e Y4 ⟨rfl,x4⟩;replace HE:=ae (HE.out.trans x4);clear x4 IL k0 k1 k2 k3 k4 k5 k6 k7 e1;go_wp2_with fail
             exact ⟨⟨i+1,by omega,HE.out,by go_num⟩,by simp only [intOf];omega⟩
    ·go_wp2_with fail
     exact ⟨⟨i+1,by omega,HE.out,by go_num⟩,by simp only [intOf];omega⟩
   ·obtain rfl:i=xs.length:=by omega
    go_wp2_with fail
    refine (rz wr).mono ?_;rintro e w9 ⟨rfl,x9⟩;go_wp2_with fail
    go_ret;exact ⟨rfl,(HX.out.trans HE.out).trans x9⟩
end Go.Proofs.YtkpngkdgphojlaaGreat
