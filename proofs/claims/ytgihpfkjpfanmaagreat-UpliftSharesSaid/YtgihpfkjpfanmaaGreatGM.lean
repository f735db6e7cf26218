/- Texts of the proof: Sh1, Sh2, Ev1, Ev2, Ev3, Ev4, Ev5. -/
import Derived.Test.YtgihpfkjpfanmaaGreatGL
/- uplift.Share. -/
namespace Go.Proofs.YtgihpfkjpfanmaaGreat
open Go.RowKit

set_option maxHeartbeats 2000000 in
set_option maxRecDepth 100000 in
/-- uplift.Share where all weights are 0. -/
theorem share_none (w : World) (T : Int) (a : Option Addr) (c L : Nat) (rs : List RVal) (qs : List Rat) (h : Rats w a c rs qs L) (hn : rs.length ≤ 128) (hL : L < 100) (hT1 : -281474976710656 ≤ T) (hT2 : T ≤ 281474976710656) (hpos : ∀ i (hi : i < rs.length), 0 ≤ (qs[i]'(by rw [h.len]; exact hi))) (h0 : qsum qs = 0) :
    Calls Tryz.prog 45 #[.int .i64 T, .slice a rs.length c] w fun e w' => e = .returned (.tuple #[.slice none 0 0, .int .i64 20]) ∧ Ext w w' := by
  have hle := h.le
  have hcap := h.cap
  have hsh := h.short
  have hSb : rs.length * (L + 2) + L + 1 < 100000000 := by
    have := Nat.mul_le_mul hn (show L + 2 ≤ 102 by omega)
    omega
  have hsz : rsz (qsum qs) < 20000 := by
    have h5 := rsz_qsum qs (L + 1) (fun i hi => by have := (h.num i (by rw [← h.len]; exact hi)).rsz; omega) qs.length (Nat.le_refl _)
    rw [List.take_length, h.len] at h5
    have := Nat.mul_le_mul hn (show L + 1 + 1 ≤ 101 by omega)
    omega
  have hFT := fun V => rat_FromInt V T (by omega) (by omega)
  have hSum := fun V (hV : Ext w V) => rat_Sum V a c rs qs L (h.ext hV) hSb
  have hszT : rsz ((T : Int) : Rat) ≤ 2 := by rw [rsz_int]; have := len_natAbs_i64 (z := T) (by omega) (by omega); omega
  generalize ((T : Int) : Rat) = tq at *
  obtain ⟨S, hS⟩ : ∃ S, S = qsum qs := ⟨_, rfl⟩
  rw [← hS] at hSum hsz h0
  have HFT := Lib.hid hFT; have HSum := Lib.hid hSum
  clear hFT hSum hS
  have d1 : decide ((281474976710656 : Int) < T) = false := by simp; omega
  have d2 : decide (T < (-281474976710656 : Int)) = false := by simp; omega
  have d3 : decide ((128 : Int) < (rs.length : Int)) = false := by simp; omega
  go_enter Tryz.func45, Tryz.ntmps45
  go_wp2_with fail
  go_loopw [26] (fun ii wr => ∃ j : Nat, j ≤ rs.length ∧ Ext w wr ∧ ii = .int .i64 j) (fun ii _ => rs.length - (intOf ii).toNat)
  case atStart => exact ⟨0, Nat.zero_le _, Ext.refl _, rfl⟩
  case round =>
    obtain ⟨j, hj, hE, rfl⟩ := hrel
    by_cases hlt : j < rs.length
    · have hq := h.ext hE
      obtain ⟨b, o, rfl⟩ := h.at (by omega)
      obtain ⟨b', o', e', c0, c1, c2⟩ := hq.cell j hlt
      cases e'
      obtain ⟨n2, m2', g1, g2, gq, gl1, gl2⟩ := hq.num j hlt
      have hSg := fun V (hV : Ext wr V) => rat_Sign V rs[j].s _ _ _ _ _ _ _ _ (g1.ext hV) (g2.ext hV)
      have hp := Rat.num_nonneg.2 (hpos j hlt)
      rw [← gq] at hSg
      have hsn : decide ((qs[j]'(by rw [h.len]; exact hlt)).num.sign < 0) = false := by
        rcases Int.lt_or_eq_of_le hp with h5 | h5
        · rw [Int.sign_eq_one_of_pos h5]; decide
        · rw [← h5]; decide
      generalize (qs[j]'(by rw [h.len]; exact hlt)).num.sign = z at hSg hsn
      have HSg := Lib.hid hSg
      clear hSg gq hp hq
      generalize rs[j] = y at *
      go_upto_region 6 with fail
      obtain ⟨V, hV, xv, Zv, Av⟩ := boxes1 wr 55 [.bool y.s, .slice y.a y.k y.c, .slice y.b y.j y.d]
      rw [← hV]
      clear hV c0 c1 c2
      obtain ⟨m0, m1, m2, -, -, -⟩ := box3 Av (Ext.refl _)
      go_wp2_with fail
      refine (HSg.out _ xv).mono ?_
      rintro e w2 ⟨rfl, x2⟩
      go_wp2_with fail
      go_roundw
      case rel => exact ⟨j + 1, by omega, (hE.trans xv).trans x2, by go_num⟩
      case measure => simp [intOf] <;> omega
    · obtain rfl : j = rs.length := by omega
      go_wp2_with fail
      refine (HFT.out _).mono ?_
      intro e w2 hN
      obtain ⟨r2, rfl, hr2, x2⟩ := hN.isCan
      clear hN
      go_wp2_with fail
      refine (HSum.out _ (hE.trans x2)).mono ?_
      intro e w3 hN
      obtain ⟨r3, rfl, hr3, x3⟩ := hN.isCan
      clear hN
      obtain ⟨n2, m2, g1, g2, gq, gl1, gl2⟩ := hr2.isRat.ext x3
      obtain ⟨n3, m3, f1, f2, fq, fl1, fl2⟩ := hr3.isRat
      have hDv := rat_Div_zero w3 r2.s _ _ _ _ _ _ _ _ g1 g2 r3.s _ _ _ _ _ _ _ _ f1 f2 (by rw [← fq]; exact h0)
      have HDv := Lib.hid hDv
      clear hDv gq fq
      go_wp2_with fail
      refine HDv.out.mono ?_
      rintro e w4 ⟨rfl, x4⟩
      go_wp2_with fail
      go_ret2
      exact ⟨rfl, (((hE.trans x2).trans x3).trans x4).alloc _⟩

/-- The state at the head of the loop. -/
def ShAt (W4 : World) (R : Rat) (qs : List Rat) (n bp BB : Nat) (i : Nat) (wr : World) : Prop :=
  ∃ prs : List RVal, prs.length = i ∧ i ≤ n ∧ Arr wr bp 55 (ratCells prs ++ zeros3 (n - i)) ∧ (∀ k (hk : k < prs.length), IsCan wr prs[k] (R * qs[k]?.getD 0) BB) ∧ Ext W4 wr ∧ BB ≤ wr.heap.size

set_option maxHeartbeats 4000000 in
set_option maxRecDepth 100000 in
/-- uplift.Share. -/
theorem share_main (w : World) (T : Int) (a : Option Addr) (c L : Nat) (rs : List RVal) (qs : List Rat) (h : Rats w a c rs qs L) (hn : rs.length ≤ 128) (hL : L < 100) (hT1 : -281474976710656 ≤ T) (hT2 : T ≤ 281474976710656) (hpos : ∀ i (hi : i < rs.length), 0 ≤ (qs[i]'(by rw [h.len]; exact hi))) (h0n : 0 < rs.length) (hS0 : ¬ qsum qs = 0) (hok : ∀ i (hi : i < qs.length), apOk (((T : Int) : Rat) / qsum qs * qs[i])) (hint : qsum (qs.map fun q => ((T : Int) : Rat) / qsum qs * q) = (((qsum (qs.map fun q => ((T : Int) : Rat) / qsum qs * q)).floor : Int) : Rat)) :
    Calls Tryz.prog 45 #[.int .i64 T, .slice a rs.length c] w (ApGood (apOut (qs.map fun q => ((T : Int) : Rat) / qsum qs * q)) w) := by
  obtain ⟨out, hout⟩ : ∃ out, out = apOut (qs.map fun q => ((T : Int) : Rat) / qsum qs * q) := ⟨_, rfl⟩
  rw [← hout]
  have hle := h.le
  have hcap := h.cap
  have hsh := h.short
  have hSb : rs.length * (L + 2) + L + 1 < 100000000 := by
    have := Nat.mul_le_mul hn (show L + 2 ≤ 102 by omega)
    omega
  have hsz : rsz (qsum qs) < 20000 := by
    have h5 := rsz_qsum qs (L + 1) (fun i hi => by have := (h.num i (by rw [← h.len]; exact hi)).rsz; omega) qs.length (Nat.le_refl _)
    rw [List.take_length, h.len] at h5
    have := Nat.mul_le_mul hn (show L + 1 + 1 ≤ 101 by omega)
    omega
  have hFT := fun V => rat_FromInt V T (by omega) (by omega)
  have hSum := fun V (hV : Ext w V) => rat_Sum V a c rs qs L (h.ext hV) hSb
  have hszT : rsz ((T : Int) : Rat) ≤ 2 := by rw [rsz_int]; have := len_natAbs_i64 (z := T) (by omega) (by omega); omega
  generalize ((T : Int) : Rat) = tq at *
  obtain ⟨S, hS⟩ : ∃ S, S = qsum qs := ⟨_, rfl⟩
  rw [← hS] at hSum hsz hS0 hok hint hout
  have HFT := Lib.hid hFT; have HSum := Lib.hid hSum
  have HOK := Lib.hid hok; have HINT := Lib.hid hint; have HOUT := Lib.hid hout
  clear hFT hSum hS hok hint hout
  have d1 : decide ((281474976710656 : Int) < T) = false := by simp; omega
  have d2 : decide (T < (-281474976710656 : Int)) = false := by simp; omega
  have d3 : decide ((128 : Int) < (rs.length : Int)) = false := by simp; omega
  go_enter Tryz.func45, Tryz.ntmps45
  go_wp2_with fail
  go_loopw [26] (fun ii wr => ∃ j : Nat, j ≤ rs.length ∧ Ext w wr ∧ ii = .int .i64 j) (fun ii _ => rs.length - (intOf ii).toNat)
  case atStart => exact ⟨0, Nat.zero_le _, Ext.refl _, rfl⟩
  case round =>
    obtain ⟨j, hj, hE, rfl⟩ := hrel
    by_cases hlt : j < rs.length
    · have hq := h.ext hE
      obtain ⟨b, o, rfl⟩ := h.at (by omega)
      obtain ⟨b', o', e', c0, c1, c2⟩ := hq.cell j hlt
      cases e'
      obtain ⟨n2, m2', g1, g2, gq, gl1, gl2⟩ := hq.num j hlt
      have hSg := fun V (hV : Ext wr V) => rat_Sign V rs[j].s _ _ _ _ _ _ _ _ (g1.ext hV) (g2.ext hV)
      have hp := Rat.num_nonneg.2 (hpos j hlt)
      rw [← gq] at hSg
      have hsn : decide ((qs[j]'(by rw [h.len]; exact hlt)).num.sign < 0) = false := by
        rcases Int.lt_or_eq_of_le hp with h5 | h5
        · rw [Int.sign_eq_one_of_pos h5]; decide
        · rw [← h5]; decide
      generalize (qs[j]'(by rw [h.len]; exact hlt)).num.sign = z at hSg hsn
      have HSg := Lib.hid hSg
      clear hSg gq hp hq
      generalize rs[j] = y at *
      go_upto_region 6 with fail
      obtain ⟨V, hV, xv, Zv, Av⟩ := boxes1 wr 55 [.bool y.s, .slice y.a y.k y.c, .slice y.b y.j y.d]
      rw [← hV]
      clear hV c0 c1 c2
      obtain ⟨m0, m1, m2, -, -, -⟩ := box3 Av (Ext.refl _)
      go_wp2_with fail
      refine (HSg.out _ xv).mono ?_
      rintro e w2 ⟨rfl, x2⟩
      go_wp2_with fail
      go_roundw
      case rel => exact ⟨j + 1, by omega, (hE.trans xv).trans x2, by go_num⟩
      case measure => simp [intOf] <;> omega
    · obtain rfl : j = rs.length := by omega
      go_wp2_with fail
      refine (HFT.out _).mono ?_
      intro e w2 hN
      obtain ⟨r2, rfl, hr2, x2⟩ := hN.isCan
      clear hN
      go_wp2_with fail
      refine (HSum.out _ (hE.trans x2)).mono ?_
      intro e w3 hN
      obtain ⟨r3, rfl, hr3, x3⟩ := hN.isCan
      clear hN
      obtain ⟨n2, m2, g1, g2, gq, gl1, gl2⟩ := hr2.isRat.ext x3
      obtain ⟨n3, m3, f1, f2, fq, fl1, fl2⟩ := hr3.isRat
      have hDv := rat_Div w3 r2.s _ _ _ _ _ _ _ _ g1 g2 r3.s _ _ _ _ _ _ _ _ f1 f2 (by omega) (by omega) (by omega) (by omega) (by rw [← fq]; exact hS0)
      rw [← gq, ← fq] at hDv
      have hszR : rsz (tq / S) ≤ 20010 := by have := rsz_div tq S; omega
      generalize tq / S = R at *
      have HDv := Lib.hid hDv
      clear hDv gq fq
      go_wp2_with fail
      refine HDv.out.mono ?_
      rintro e w4 ⟨a4, c4, b4, d4, rfl, r4, f4, q4, g4, x4⟩
      go_upto_region 10 with fail
      obtain ⟨W4, hW4, y4, Z4, A4⟩ := boxes1 w4 55 [.bool (decide (R.num < 0)), .slice a4 (len R.num.natAbs) c4, .slice b4 (len R.den) d4]
      rw [← hW4]
      clear hW4
      have xW4 : Ext w W4 := (((hE.trans x2).trans x3).trans x4).trans y4
      have rN := r4.ext y4
      have rD := q4.ext y4
      clear r4 q4 f4 g4 hr2 hr3 g1 g2 f1 f2 HDv HFT HSum
      have lR1 := rsz_num R
      have lR2 := rsz_den R
      go_upto_region 13 with (at_make; refine wpList_make_three _ rfl _ _ 48 rfl 55 (.agg zero3.toArray) 56 Tryz.underlying48 Tryz.info_rat rfl _ _ rs.length rfl rfl (by go_num) (by go_num) (by omega) (by omega) ?_; intro w5 hw5 hx5 hz5)
      obtain ⟨bp, hbp⟩ : ∃ bp, bp = W4.heap.size := ⟨_, rfl⟩
      obtain ⟨BB, hBB⟩ : ∃ BB, BB = w5.heap.size := ⟨_, rfl⟩
      have o5 : bp < BB := by have := hz5.out; omega
      have o1 := xW4.size
      have SI : Hid (ShAt W4 R qs rs.length bp BB 0 w5) := ⟨[], rfl, Nat.zero_le _, by rw [hbp]; exact hw5.out, fun k hk => absurd hk (by simp), hx5, by omega⟩
      rw [← hbp]
      have o6 : W4.heap.size ≤ bp := by omega
      clear hw5 hz5 hx5 hbp hBB
      go_wp2_with fail
      go_loopw [49] (fun ii wr => ∃ i : Nat, ShAt W4 R qs rs.length bp BB i wr ∧ ii = .int .i64 i) (fun ii _ => rs.length - (intOf ii).toNat)
      case atStart => exact ⟨0, SI.out, rfl⟩
      case round =>
        obtain ⟨i, hAt, rfl⟩ := hrel
        obtain ⟨prs, hpl, hi, aG, hcan, hx, hBw⟩ := hAt
        by_cases hlt : i < rs.length
        · have hil : i < qs.length := by rw [h.len]; exact hlt
          obtain ⟨b, o, rfl⟩ := h.at (by omega)
          obtain ⟨b', o', e', c0, c1, c2⟩ := (h.ext (xW4.trans hx)).cell i hlt
          cases e'
          obtain ⟨n6, m6, g1, g2, gq, gl1, gl2⟩ := h.num i hlt
          have hqi : qs[i]?.getD 0 = qs[i]'hil := by rw [List.getElem?_eq_getElem hil]; rfl
          have hMul := fun V (hV : Ext W4 V) => rat_Mul V (decide (R.num < 0)) _ _ _ _ _ _ _ _ (rN.ext hV) (rD.ext hV) rs[i].s _ _ _ _ _ _ _ _ (g1.ext (xW4.trans hV)) (g2.ext (xW4.trans hV)) (by omega) (by omega) (by omega) (by omega)
          rw [sgn_num, Rat.mkRat_self, ← gq, ← hqi] at hMul
          have HMul := Lib.hid hMul
          clear hMul gq g1 g2 hqi
          generalize rs[i] = y at *
          have b0 : (0 : Int) ≤ (i : Int) := by omega
          have b1 : (i : Int) < (rs.length : Int) := by omega
          go_upto_region 16 with fail
          obtain ⟨V0, hV0, xv, Zv, Av⟩ := boxes1 wr 55 [.bool y.s, .slice y.a y.k y.c, .slice y.b y.j y.d]
          rw [← hV0]
          clear hV0 c0 c1 c2
          obtain ⟨m0, m1, m2, -, -, -⟩ := box3 Av (Ext.refl _)
          obtain ⟨k0, k1, k2, -, -, -⟩ := box3 A4 (hx.trans xv)
          go_wp2_with fail
          refine (HMul.out _ (hx.trans xv)).mono ?_
          intro e w6 hN
          obtain ⟨r6, rfl, hr6, x6⟩ := hN.isCan
          clear hN m0 m1 m2 k0 k1 k2
          have v6 : Ext wr w6 := xv.trans x6
          have sz6 := v6.size
          have szv := xv.size
          have hpc : (ratCells prs).length = i * 3 := by rw [ratCells_length, hpl]
          obtain ⟨m, hm⟩ : ∃ m, rs.length - i = m + 1 := ⟨rs.length - i - 1, by omega⟩
          have hm' : rs.length - (i + 1) = m := by omega
          rw [hm] at aG
          obtain ⟨p0, p1, p2, p3, p4, p5⟩ := zero_at (aG.ext v6) hpc
          have C2 : Arr (((w6.setCell ⟨bp, i * 3, none⟩ (.bool r6.s)).setCell ⟨bp, i * 3 + 1, none⟩ (.slice r6.a r6.k r6.c)).setCell ⟨bp, i * 3 + 2, none⟩ (.slice r6.b r6.j r6.d)) bp 55 (ratCells (prs ++ [r6]) ++ zeros3 m) := by
            have h5 := (((aG.ext v6).set (i * 3) (.bool r6.s)).set (i * 3 + 1) (.slice r6.a r6.k r6.c)).set (i * 3 + 2) (.slice r6.b r6.j r6.d)
            have h6 := fill3 (ratCells prs) m (.bool r6.s) (.slice r6.a r6.k r6.c) (.slice r6.b r6.j r6.d)
            rw [hpc] at h6
            rw [h6] at h5
            rw [ratCells_snoc]
            exact h5
          have C6 := fun k hk => ((((hcan k hk).ext v6).setCell ⟨bp, i * 3, none⟩ (.bool r6.s) (by simp only; omega)).setCell ⟨bp, i * 3 + 1, none⟩ (.slice r6.a r6.k r6.c) (by simp only; omega)).setCell ⟨bp, i * 3 + 2, none⟩ (.slice r6.b r6.j r6.d) (by simp only; omega)
          have C6' := (((hr6.mono (show BB ≤ V0.heap.size by omega)).setCell ⟨bp, i * 3, none⟩ (.bool r6.s) (by simp only; omega)).setCell ⟨bp, i * 3 + 1, none⟩ (.slice r6.a r6.k r6.c) (by simp only; omega)).setCell ⟨bp, i * 3 + 2, none⟩ (.slice r6.b r6.j r6.d) (by simp only; omega)
          have C7 : Ext W4 (((w6.setCell ⟨bp, i * 3, none⟩ (.bool r6.s)).setCell ⟨bp, i * 3 + 1, none⟩ (.slice r6.a r6.k r6.c)).setCell ⟨bp, i * 3 + 2, none⟩ (.slice r6.b r6.j r6.d)) := ((((hx.trans v6).setCell (by simp only; omega) _).setCell (by simp only; omega) _).setCell (by simp only; omega) _)
          have HD : Hid (ShAt W4 R qs rs.length bp BB (i + 1) (((w6.setCell ⟨bp, i * 3, none⟩ (.bool r6.s)).setCell ⟨bp, i * 3 + 1, none⟩ (.slice r6.a r6.k r6.c)).setCell ⟨bp, i * 3 + 2, none⟩ (.slice r6.b r6.j r6.d))) := by
            refine ⟨prs ++ [r6], by simp [hpl], by omega, by rw [hm']; exact C2, ?_, C7, by simp [World.setCell]; omega⟩
            intro k hk
            by_cases hki : k < prs.length
            · rw [List.getElem_append_left hki]; exact C6 k hki
            · have hk' : k = i := by simp at hk; omega
              subst hk'
              rw [List.getElem_append_right (by omega)]
              simp only [hpl, Nat.sub_self, List.getElem_cons_zero]
              exact C6'
          clear C2 C6 C6' C7 hpc hm hm' hcan aG
          go_wp2_with fail
          refine ⟨⟨i + 1, HD.out, by go_num⟩, by simp [intOf] <;> omega⟩
        · obtain rfl : i = rs.length := by omega
          rw [Nat.sub_self] at aG
          have hRt : Rats wr (some ⟨bp, 0, none⟩) rs.length prs (qs.map fun q => R * q) 90000 := by
            refine ⟨by rw [List.length_map, h.len, hpl], by omega, by omega, by omega, fun k hk => ⟨bp, 0, rfl, ?_, ?_, ?_⟩, fun k hk => ?_⟩
            · rw [Nat.zero_add, aG.cell, List.getElem?_append_left (by rw [ratCells_length]; omega)]; exact ratCells_get prs k 0 hk (by decide)
            · rw [Nat.zero_add, aG.cell, List.getElem?_append_left (by rw [ratCells_length]; omega)]; exact ratCells_get prs k 1 hk (by decide)
            · rw [Nat.zero_add, aG.cell, List.getElem?_append_left (by rw [ratCells_length]; omega)]; exact ratCells_get prs k 2 hk (by decide)
            · have h5 := (hcan k hk).isRat
              have hkq : k < qs.length := by rw [h.len]; omega
              have e5 : qs[k]?.getD 0 = qs[k]'hkq := by rw [List.getElem?_eq_getElem hkq]; rfl
              rw [e5] at h5
              have e6 : (qs.map fun q => R * q)[k]'(by simpa using hkq) = R * qs[k]'hkq := by simp
              rw [e6]
              refine h5.mono ?_
              have l1 := rsz_mul R (qs[k]'hkq)
              have l6 := (h.num k (by omega)).rsz
              omega
          have hap := ap_main wr (some ⟨bp, 0, none⟩) rs.length 90000 prs (qs.map fun q => R * q) hRt (by omega) (by omega) (by omega) (fun k hk => by
            have hkq : k < qs.length := by rw [h.len]; omega
            have := HOK.out k hkq
            simpa using this) HINT.out
          rw [← HOUT.out, hpl] at hap
          have HAP := Lib.hid hap
          clear hap hRt aG hcan
          go_wp2_with fail
          refine HAP.out.mono ?_
          rintro e w7 ⟨b7, rfl, hb7, hA7, x7⟩
          go_wp2_with fail
          go_ret2
          exact ⟨b7, rfl, Nat.le_trans (xW4.trans hx).size hb7, hA7, (xW4.trans hx).trans x7⟩

end Go.Proofs.YtgihpfkjpfanmaaGreat

/- uplift.Share: its premises, in plain words. -/
namespace Go.Proofs.YtgihpfkjpfanmaaGreat
open Go.RowKit

theorem foldl_qadd (l : List Rat) (s : Rat) : l.foldl (· + ·) s = s + qsum l := by
  unfold qsum
  induction l generalizing s with
  | nil => simp [Rat.add_zero]
  | cons a l ih => rw [List.foldl_cons, List.foldl_cons, ih, ih (0 + a)]; grind
theorem qsum_cons (a : Rat) (l : List Rat) : qsum (a :: l) = a + qsum l := by
  rw [show qsum (a :: l) = l.foldl (· + ·) (0 + a) from rfl, foldl_qadd]; grind
theorem qsum_scale (c : Rat) (l : List Rat) : qsum (l.map fun q => c * q) = c * qsum l := by
  induction l with
  | nil => simp [qsum]
  | cons a l ih => rw [List.map_cons, qsum_cons, qsum_cons, ih]; grind
theorem qsum_nonneg (l : List Rat) (h : ∀ x ∈ l, 0 ≤ x) : 0 ≤ qsum l := by
  induction l with
  | nil => simp [qsum]
  | cons a l ih =>
    rw [qsum_cons]
    have h1 := h a (by simp)
    have h2 := ih (fun x hx => h x (by simp [hx]))
    grind
theorem le_qsum (l : List Rat) (h : ∀ x ∈ l, 0 ≤ x) : ∀ x ∈ l, x ≤ qsum l := by
  induction l with
  | nil => simp
  | cons a l ih =>
    intro x hx
    rw [qsum_cons]
    have h1 := h a (by simp)
    have h2 := qsum_nonneg l (fun x hx => h x (by simp [hx]))
    rcases List.mem_cons.1 hx with rfl | hx
    · grind
    · have := ih (fun x hx => h x (by simp [hx])) x hx
      grind

/-- A part of T: between -|T| and |T|. -/
theorem part_ok (T : Int) (S q : Rat) (hT1 : -281474976710656 ≤ T) (hT2 : T ≤ 281474976710656) (h0 : 0 ≤ q) (hq : q ≤ S) (hS : ¬ S = 0) : apOk (((T : Int) : Rat) / S * q) := by
  have hS0 : 0 < S := by grind
  have hr : ((T : Int) : Rat) / S * q = (T : Rat) * (q / S) := by
    rw [Rat.div_def, Rat.div_def]; grind
  have hf0 : 0 ≤ q / S := by
    rw [Rat.div_def]; exact Rat.mul_nonneg h0 (Rat.le_of_lt (Rat.inv_pos.2 hS0))
  have hf1 : q / S ≤ 1 := by
    rw [Rat.div_def]
    have := Rat.mul_le_mul_of_nonneg_right hq (Rat.le_of_lt (Rat.inv_pos.2 hS0))
    rw [Rat.mul_inv_cancel S hS] at this
    exact this
  have ht1 : (T : Rat) ≤ apMost := by unfold apMost; exact Rat.intCast_le_intCast.2 hT2
  have ht2 : -(T : Rat) ≤ apMost := by
    unfold apMost
    have := Rat.intCast_le_intCast.2 (show -T ≤ (281474976710656 : Int) by omega)
    rw [Rat.intCast_neg] at this
    exact this
  have hM : 0 ≤ apMost := by unfold apMost; decide
  have a1 := Rat.mul_le_mul_of_nonneg_right ht1 hf0
  have a2 := Rat.mul_le_mul_of_nonneg_right ht2 hf0
  have a3 := Rat.mul_le_mul_of_nonneg_left hf1 hM
  unfold apOk
  rw [hr]
  constructor <;> grind

theorem parts_sum (T : Int) (qs : List Rat) (hS : ¬ qsum qs = 0) : qsum (qs.map fun q => ((T : Int) : Rat) / qsum qs * q) = ((T : Int) : Rat) := by
  rw [qsum_scale, Rat.div_mul_cancel hS]

theorem share_ok (w : World) (T : Int) (a : Option Addr) (c L : Nat) (rs : List RVal) (qs : List Rat) (h : Rats w a c rs qs L) (hn : rs.length ≤ 128) (hL : L < 100) (hT1 : -281474976710656 ≤ T) (hT2 : T ≤ 281474976710656) (hpos : ∀ i (hi : i < rs.length), 0 ≤ (qs[i]'(by rw [h.len]; exact hi))) (h0n : 0 < rs.length) (hS0 : ¬ qsum qs = 0) :
    Calls Tryz.prog 45 #[.int .i64 T, .slice a rs.length c] w (ApGood (apOut (qs.map fun q => ((T : Int) : Rat) / qsum qs * q)) w) := by
  have hp : ∀ x ∈ qs, 0 ≤ x := by
    intro x hx
    obtain ⟨i, hi, rfl⟩ := List.getElem_of_mem hx
    exact hpos i (by rw [← h.len]; exact hi)
  refine share_main w T a c L rs qs h hn hL hT1 hT2 hpos h0n hS0 ?_ ?_
  · intro i hi
    exact part_ok T _ _ hT1 hT2 (hp _ (List.getElem_mem hi)) (le_qsum qs hp _ (List.getElem_mem hi)) hS0
  · rw [parts_sum T qs hS0, Rat.floor_intCast]

end Go.Proofs.YtgihpfkjpfanmaaGreat

/- Apportion's numbers: who is raised, in plain words. -/
namespace Go.Proofs.YtgihpfkjpfanmaaGreat
open Go.RowKit

theorem apOrder_perm (fs : List Rat) (n : Nat) : (apOrder fs n).Perm (List.finRange n) := List.mergeSort_perm _ _
theorem apOrder_length (fs : List Rat) (n : Nat) : (apOrder fs n).length = n := by simpa using (apOrder_perm fs n).length_eq
theorem apOrder_sorted (fs : List Rat) (n : Nat) : (apOrder fs n).Pairwise (fun (x y : Fin n) => ¬ apLt fs y x) := by
  have e : ∀ a b : Fin n, (!(ltOf (fun a b : Fin n => apCmp fs a b) b a)) = true ↔ ¬ apLt fs b a := by
    intro a b; unfold ltOf; rw [Bool.not_eq_true', decide_eq_false_iff_not, apCmp_lt]
  have := List.pairwise_mergeSort (le := fun x y : Fin n => !(ltOf (fun a b : Fin n => apCmp fs a b) y x)) (fun a b c h1 h2 => by
    rw [e] at *; exact apLt_ntrans h2 h1) (fun a b => by
    rw [Bool.or_eq_true, e, e]
    by_cases h : apLt fs b a
    · right; intro h2; exact apLt_irrefl fs _ (apLt_trans h h2)
    · left; exact h) (List.finRange n)
  exact this.imp (fun {a b} h => (e a b).1 h)
theorem apAt_eq (fs : List Rat) (n j : Nat) (h : j < (apOrder fs n).length) : apAt fs n j = ((apOrder fs n)[j]).val := by
  unfold apAt; rw [List.getElem?_eq_getElem h]; rfl
theorem apAt_inj (fs : List Rat) (n j k : Nat) (hj : j < n) (hk : k < n) (h : apAt fs n j = apAt fs n k) : j = k := by
  have hl := apOrder_length fs n
  rw [apAt_eq fs n j (by omega), apAt_eq fs n k (by omega)] at h
  have hn : (apOrder fs n).Nodup := (apOrder_perm fs n).nodup_iff.2 (List.nodup_finRange n)
  have hp := List.pairwise_iff_getElem.1 hn
  have he := Fin.ext h
  rcases Nat.lt_trichotomy j k with h1 | h1 | h1
  · exact absurd he (hp j k (by omega) (by omega) h1)
  · exact h1
  · exact absurd he.symm (hp k j (by omega) (by omega) h1)
theorem apAt_surj (fs : List Rat) (n p : Nat) (hp : p < n) : ∃ j, j < n ∧ apAt fs n j = p := by
  have hm : (⟨p, hp⟩ : Fin n) ∈ apOrder fs n := (apOrder_perm fs n).mem_iff.2 (List.mem_finRange _)
  obtain ⟨j, hj, he⟩ := List.getElem_of_mem hm
  exact ⟨j, by rw [← apOrder_length fs n]; exact hj, by rw [apAt_eq fs n j hj, he]⟩
theorem apAt_mono (fs : List Rat) (n j k : Nat) (hj : j < k) (hk : k < n) : apLt fs (apAt fs n j) (apAt fs n k) := by
  have hl := apOrder_length fs n
  have h1 := List.pairwise_iff_getElem.1 (apOrder_sorted fs n) j k (by omega) (by omega) hj
  rw [← apAt_eq, ← apAt_eq] at h1
  refine Classical.byContradiction fun h2 => ?_
  have := apAt_inj fs n j k (by omega) hk (apLt_total fs _ _ h2 h1)
  omega

/-- p is among the first t. -/
def Up (fs : List Rat) (n t p : Nat) : Prop := ∃ j, j < t ∧ apAt fs n j = p

theorem up_before {fs : List Rat} {n t p q : Nat} (_ht : t ≤ n) (hq : q < n) (hp : Up fs n t p) (h : apLt fs q p) : Up fs n t q := by
  obtain ⟨j, hj, rfl⟩ := hp
  obtain ⟨k, hk, rfl⟩ := apAt_surj fs n q hq
  refine ⟨k, ?_, rfl⟩
  refine Classical.byContradiction fun h2 => ?_
  rcases Nat.lt_or_eq_of_le (show j ≤ k by omega) with h3 | h3
  · exact apLt_irrefl fs _ (apLt_trans h (apAt_mono fs n j k h3 hk))
  · omega

open Classical in
theorem apInc_get (fs : List Rat) (n : Nat) (l : List Int) (hl : l.length = n) : ∀ t, t ≤ n → ∀ p, p < n → (apInc fs n l t)[p]?.getD 0 = l[p]?.getD 0 + (if Up fs n t p then 1 else 0) := by
  intro t
  induction t with
  | zero =>
    intro _ p _
    have : ¬ Up fs n 0 p := by rintro ⟨j, hj, _⟩; omega
    simp [apInc, this]
  | succ t ih =>
    intro ht p hp
    have hlen := apInc_length fs n l t
    have hat := apAt_lt fs n t (by omega)
    unfold apInc
    by_cases he : apAt fs n t = p
    · have h1 : ¬ Up fs n t p := by
        rintro ⟨j, hj, he2⟩
        have := apAt_inj fs n j t (by omega) (by omega) (by omega)
        omega
      have h2 : Up fs n (t + 1) p := ⟨t, by omega, he⟩
      have := ih (by omega) p hp
      rw [if_neg h1] at this
      rw [if_pos h2, he, List.getElem?_set_self (by omega)]
      simp only [Option.getD_some]
      omega
    · have h3 : Up fs n (t + 1) p ↔ Up fs n t p := by
        constructor
        · rintro ⟨j, hj, he2⟩
          refine ⟨j, ?_, he2⟩
          have : j ≠ t := fun h => he (h ▸ he2)
          omega
        · rintro ⟨j, hj, he2⟩; exact ⟨j, by omega, he2⟩
      have := ih (by omega) p hp
      rw [List.getElem?_set_ne he, this]
      simp only [h3]

theorem isum_set (l : List Int) (p : Nat) (hp : p < l.length) : isum (l.set p (l[p]?.getD 0 + 1)) = isum l + 1 := by
  unfold isum
  induction l generalizing p with
  | nil => simp at hp
  | cons a l ih =>
    cases p with
    | zero => simp; omega
    | succ p =>
      have := ih p (by simpa using hp)
      simp at this ⊢
      omega
theorem isum_apInc (fs : List Rat) (n : Nat) (l : List Int) (hl : l.length = n) : ∀ t, t ≤ n → isum (apInc fs n l t) = isum l + t := by
  intro t
  induction t with
  | zero => intro _; simp [apInc]
  | succ t ih =>
    intro ht
    unfold apInc
    rw [isum_set _ _ (by rw [apInc_length, hl]; exact apAt_lt fs n t (by omega)), ih (by omega)]
    omega

end Go.Proofs.YtgihpfkjpfanmaaGreat

/- UpliftEven's plain law. -/
namespace Go.Proofs.YtgihpfkjpfanmaaGreat
open Go.RowKit

theorem floor_le' (q : Rat) : ((q.floor : Int) : Rat) ≤ q := Rat.le_floor_iff.1 (Int.le_refl _)
theorem lt_floor' (q : Rat) : q < ((q.floor : Int) : Rat) + 1 := by
  have h : ¬ (q.floor + 1 ≤ q.floor) := by omega
  rw [Rat.le_floor_iff, Rat.not_le, Rat.intCast_add] at h
  exact h
theorem fracs_get (qs : List Rat) (p : Nat) (hp : p < qs.length) : (fracs qs)[p]?.getD 0 = qs[p] - ((qs[p].floor : Int) : Rat) := by
  simp [fracs, hp]

/-- How many numbers must be raised. -/
def apMiss (qs : List Rat) : Nat := ((qsum qs).floor - isum (qs.map Rat.floor)).toNat
theorem apOut_miss (qs : List Rat) : apOut qs = apInc (fracs qs) qs.length (qs.map Rat.floor) (apMiss qs) := rfl
theorem isum_cons (a : Int) (l : List Int) : isum (a :: l) = a + isum l := by simp [isum]

/-- The sum is between the sum of the floors and that plus how many parts are not 0. -/
theorem qsum_floor (qs : List Rat) : qsum qs = ((isum (qs.map Rat.floor) : Int) : Rat) + qsum (fracs qs) := by
  induction qs with
  | nil => simp [fracs, isum, qsum, Rat.add_zero]
  | cons a l ih =>
    unfold fracs at *
    rw [List.map_cons, List.map_cons, qsum_cons, qsum_cons, isum_cons, Rat.intCast_add, ih]
    grind
theorem fracs_sum (qs : List Rat) : qsum (fracs qs) ≤ (((qs.countP (fun q => decide (((q.floor : Int) : Rat) < q)) : Nat) : Int) : Rat) := by
  induction qs with
  | nil => simp [fracs, qsum]
  | cons a l ih =>
    unfold fracs at *
    have h1 := floor_le' a
    have h2 := lt_floor' a
    rw [List.map_cons, qsum_cons, List.countP_cons]
    by_cases h : ((a.floor : Int) : Rat) < a
    · rw [if_pos (by simpa using h)]
      rw [Int.natCast_add, Rat.intCast_add]
      have : (((1 : Nat) : Int) : Rat) = 1 := rfl
      grind
    · rw [if_neg (by simpa using h)]
      grind
theorem fracs_nonneg (qs : List Rat) : 0 ≤ qsum (fracs qs) := by
  apply qsum_nonneg
  intro x hx
  unfold fracs at hx
  obtain ⟨q, _, rfl⟩ := List.mem_map.1 hx
  have := floor_le' q
  grind

theorem miss_eq (qs : List Rat) (T : Int) (h : qsum qs = (T : Rat)) : (apMiss qs : Int) = T - isum (qs.map Rat.floor) ∧ apMiss qs ≤ qs.countP (fun q => decide (((q.floor : Int) : Rat) < q)) := by
  have h1 := qsum_floor qs
  have h2 := fracs_sum qs
  have h3 := fracs_nonneg qs
  have e1 : isum (qs.map Rat.floor) ≤ T := by
    apply Rat.intCast_le_intCast.1
    grind
  have e2 : T ≤ isum (qs.map Rat.floor) + (qs.countP (fun q => decide (((q.floor : Int) : Rat) < q)) : Nat) := by
    apply Rat.intCast_le_intCast.1
    rw [Rat.intCast_add]
    grind
  unfold apMiss
  rw [h, Rat.floor_intCast]
  omega

theorem apOut_sum (qs : List Rat) (T : Int) (h : qsum qs = (T : Rat)) : isum (apOut qs) = T := by
  obtain ⟨h1, h2⟩ := miss_eq qs T h
  have := List.countP_le_length (p := fun q : Rat => decide (((q.floor : Int) : Rat) < q)) (l := qs)
  rw [apOut_miss, isum_apInc _ _ _ (by simp) _ (by omega)]
  omega

theorem list_as_map (qs : List Rat) : qs = (List.finRange qs.length).map (fun i => qs[i]) := by
  apply List.ext_getElem
  · simp
  · intro i h1 h2; simp

/-- A whole number is not raised. -/
theorem whole_not_up (qs : List Rat) (T : Int) (h : qsum qs = (T : Rat)) (p : Nat) (hp : p < qs.length) (hw : ((qs[p].floor : Int) : Rat) = qs[p]) : ¬ Up (fracs qs) qs.length (apMiss qs) p := by
  rintro ⟨j, hj, he⟩
  obtain ⟨-, h2⟩ := miss_eq qs T h
  have hc := List.countP_le_length (p := fun q : Rat => decide (((q.floor : Int) : Rat) < q)) (l := qs)
  have hl := apOrder_length (fracs qs) qs.length
  have e : qs.countP (fun q => decide (((q.floor : Int) : Rat) < q)) = (apOrder (fracs qs) qs.length).countP (fun i => decide (((qs[i].floor : Int) : Rat) < qs[i])) := by
    rw [(apOrder_perm (fracs qs) qs.length).countP_eq]
    conv => lhs; rw [list_as_map qs]
    rw [List.countP_map]
    rfl
  have hz : ((apOrder (fracs qs) qs.length).drop j).countP (fun i => decide (((qs[i].floor : Int) : Rat) < qs[i])) = 0 := by
    rw [List.countP_eq_zero]
    intro i hi
    obtain ⟨k, hk, rfl⟩ := List.getElem_of_mem hi
    rw [List.length_drop] at hk
    have hat := apAt_eq (fracs qs) qs.length (j + k) (by omega)
    have hq : (apOrder (fracs qs) qs.length)[j + k].val < qs.length := (apOrder (fracs qs) qs.length)[j + k].2
    rw [List.getElem_drop]
    have hfp := fracs_get qs p hp
    have hfk := fracs_get qs _ hq
    have hfl := floor_le' (qs[(apOrder (fracs qs) qs.length)[j + k].val]'hq)
    simp only [decide_eq_true_eq, Fin.getElem_fin]
    rcases Nat.eq_zero_or_pos k with hk0 | hk0
    · subst hk0
      have : (apOrder (fracs qs) qs.length)[j + 0].val = p := by rw [← hat]; exact he
      simp only [this]
      rw [hw]; exact Rat.lt_irrefl
    · have hm := apAt_mono (fracs qs) qs.length j (j + k) (by omega) (by omega)
      rw [he, hat] at hm
      unfold apLt at hm
      rw [hfp, hfk] at hm
      grind
  have hs := List.countP_append (p := fun i : Fin qs.length => decide (((qs[i].floor : Int) : Rat) < qs[i])) (l₁ := (apOrder (fracs qs) qs.length).take j) (l₂ := (apOrder (fracs qs) qs.length).drop j)
  rw [List.take_append_drop, hz] at hs
  have ht := List.countP_le_length (p := fun i : Fin qs.length => decide (((qs[i].floor : Int) : Rat) < qs[i])) (l := (apOrder (fracs qs) qs.length).take j)
  rw [List.length_take] at ht
  omega

end Go.Proofs.YtgihpfkjpfanmaaGreat

/- UpliftEven's plain law, the end. -/
namespace Go.Proofs.YtgihpfkjpfanmaaGreat
open Go.RowKit

theorem apOut_length (qs : List Rat) : (apOut qs).length = qs.length := by rw [apOut_miss, apInc_length]; simp

open Classical in
theorem apOut_get (qs : List Rat) (T : Int) (h : qsum qs = (T : Rat)) (p : Nat) (hp : p < qs.length) : (apOut qs)[p]?.getD 0 = qs[p].floor + (if Up (fracs qs) qs.length (apMiss qs) p then 1 else 0) := by
  obtain ⟨-, h2⟩ := miss_eq qs T h
  have hc := List.countP_le_length (p := fun q : Rat => decide (((q.floor : Int) : Rat) < q)) (l := qs)
  rw [apOut_miss, apInc_get _ _ _ (by simp) _ (by omega) p hp]
  simp [hp]

theorem floor_mono {p q : Rat} (h : p ≤ q) : p.floor ≤ q.floor := by
  rw [Rat.le_floor_iff]; have := floor_le' p; grind

/-- Numbers in order get numbers in order. -/
theorem apOut_mono (qs : List Rat) (T : Int) (h : qsum qs = (T : Rat)) (i k : Nat) (hi : i < qs.length) (hk : k < qs.length) (hlt : qs[k] < qs[i]) : (apOut qs)[k]?.getD 0 ≤ (apOut qs)[i]?.getD 0 := by
  obtain ⟨-, h2⟩ := miss_eq qs T h
  have hc := List.countP_le_length (p := fun q : Rat => decide (((q.floor : Int) : Rat) < q)) (l := qs)
  have hf := floor_mono (Rat.le_of_lt hlt)
  rw [apOut_get qs T h i hi, apOut_get qs T h k hk]
  by_cases hu : Up (fracs qs) qs.length (apMiss qs) k
  · rw [if_pos hu]
    by_cases hv : Up (fracs qs) qs.length (apMiss qs) i
    · rw [if_pos hv]; omega
    · rw [if_neg hv]
      have hne : qs[k].floor ≠ qs[i].floor := by
        intro he
        refine hv (up_before (by omega) hi hu (Or.inl ?_))
        rw [fracs_get qs i hi, fracs_get qs k hk, he]
        grind
      omega
  · rw [if_neg hu]
    split <;> omega
theorem apOut_same (qs : List Rat) (T : Int) (h : qsum qs = (T : Rat)) (i k : Nat) (hi : i < qs.length) (hk : k < qs.length) (he : qs[k] = qs[i]) : (apOut qs)[k]?.getD 0 - (apOut qs)[i]?.getD 0 ≤ 1 := by
  rw [apOut_get qs T h i hi, apOut_get qs T h k hk, he]
  split <;> split <;> omega
theorem apOut_zero (qs : List Rat) (T : Int) (h : qsum qs = (T : Rat)) (i : Nat) (hi : i < qs.length) (he : qs[i] = 0) : (apOut qs)[i]?.getD 0 = 0 := by
  have hf : (0 : Rat).floor = 0 := Rat.floor_intCast 0
  have hw : ((qs[i].floor : Int) : Rat) = qs[i] := by rw [he, hf]; rfl
  rw [apOut_get qs T h i hi, if_neg (whole_not_up qs T h i hi hw), he, hf]; rfl

/-- The parts of T by the weights qs. -/
def shOut (T : Int) (qs : List Rat) : List Int := apOut (qs.map fun q => ((T : Int) : Rat) / qsum qs * q)

structure EvenLaw (T : Int) (qs : List Rat) : Prop where
  len : (shOut T qs).length = qs.length
  sum : isum (shOut T qs) = T
  zero : ∀ i (hi : i < qs.length), qs[i] = 0 → (shOut T qs)[i]?.getD 0 = 0
  same : ∀ i k (hi : i < qs.length) (hk : k < qs.length), qs[k] = qs[i] → (shOut T qs)[k]?.getD 0 - (shOut T qs)[i]?.getD 0 ≤ 1
  mono : ∀ i k (hi : i < qs.length) (hk : k < qs.length), qs[k] < qs[i] → (shOut T qs)[k]?.getD 0 ≤ (shOut T qs)[i]?.getD 0

theorem even_law (T : Int) (qs : List Rat) (hT : 0 ≤ T) (hp : ∀ x ∈ qs, 0 ≤ x) (hS : ¬ qsum qs = 0) : EvenLaw T qs := by
  have hs := parts_sum T qs hS
  have hS0 : 0 < qsum qs := by have := qsum_nonneg qs hp; grind
  have hl : (qs.map fun q => ((T : Int) : Rat) / qsum qs * q).length = qs.length := by simp
  have hg : ∀ i (hi : i < qs.length), (qs.map fun q => ((T : Int) : Rat) / qsum qs * q)[i]'(by rw [hl]; exact hi) = ((T : Int) : Rat) / qsum qs * qs[i] := by intro i hi; simp
  refine ⟨?_, apOut_sum _ T hs, ?_, ?_, ?_⟩
  · unfold shOut; rw [apOut_length, hl]
  · intro i hi he
    exact apOut_zero _ T hs i (by rw [hl]; exact hi) (by rw [hg i hi, he, Rat.mul_zero])
  · intro i k hi hk he
    exact apOut_same _ T hs i k (by rw [hl]; exact hi) (by rw [hl]; exact hk) (by rw [hg i hi, hg k hk, he])
  · intro i k hi hk he
    by_cases hT0 : T = 0
    · have hz : ∀ j (hj : j < qs.length), (shOut T qs)[j]?.getD 0 = 0 := by
        intro j hj
        exact apOut_zero _ T hs j (by rw [hl]; exact hj) (by rw [hg j hj, hT0]; simp [Rat.div_def])
      rw [hz i hi, hz k hk]; exact Int.le_refl _
    · refine apOut_mono _ T hs i k (by rw [hl]; exact hi) (by rw [hl]; exact hk) ?_
      rw [hg i hi, hg k hk]
      have h0 : 0 < ((T : Int) : Rat) / qsum qs := by
        rw [Rat.div_def]
        have h1 : (0 : Rat) < ((T : Int) : Rat) := Rat.intCast_lt_intCast.2 (show (0 : Int) < T by omega)
        exact Rat.mul_pos h1 (Rat.inv_pos.2 hS0)
      exact Rat.mul_lt_mul_of_pos_left he h0

end Go.Proofs.YtgihpfkjpfanmaaGreat

/- law41.awake's two shares, plainly. -/
namespace Go.Proofs.YtgihpfkjpfanmaaGreat
open Go.RowKit

theorem apAt_three (fs : List Rat) (f : Rat) (h : ∀ i, i < 3 → fs[i]?.getD 0 = f) : apAt fs 3 0 = 0 ∧ apAt fs 3 1 = 1 ∧ apAt fs 3 2 = 2 := by
  have hm : ∀ j k, j < k → k < 3 → apAt fs 3 j < apAt fs 3 k := by
    intro j k hj hk
    have h1 := apAt_mono fs 3 j k hj hk
    unfold apLt at h1
    rw [h _ (apAt_lt fs 3 j (by omega)), h _ (apAt_lt fs 3 k hk)] at h1
    rcases h1 with h1 | ⟨_, h1⟩
    · exact absurd h1 Rat.lt_irrefl
    · exact h1
  have a := hm 0 1 (by omega) (by omega)
  have b := hm 1 2 (by omega) (by omega)
  have c := apAt_lt fs 3 2 (by omega)
  omega

theorem floor_of {q : Rat} {z : Int} (h1 : (z : Rat) ≤ q) (h2 : q < (z : Rat) + 1) : q.floor = z := by
  have a := Rat.le_floor_iff.2 h1
  have b : ¬ (z + 1 ≤ q.floor) := by
    rw [Rat.le_floor_iff, Rat.not_le, Rat.intCast_add]; exact h2
  omega
theorem qsum_three (x : Rat) : qsum [x, x, x] = 3 * x := by
  simp only [qsum, List.foldl]; grind
theorem three_parts (T : Int) : ∃ x : Rat, 3 * x = (T : Rat) ∧ ([1, 1, 1] : List Rat).map (fun q => ((T : Int) : Rat) / qsum [1, 1, 1] * q) = [x, x, x] := by
  refine ⟨(T : Rat) / 3, by grind, ?_⟩
  have : qsum [1, 1, 1] = 3 := by rw [qsum_three]; grind
  simp [this, Rat.mul_one]

theorem three_out (x : Rat) (T z : Int) (hx : 3 * x = (T : Rat)) (h1 : (z : Rat) ≤ x) (h2 : x < (z : Rat) + 1) : apOut [x, x, x] = apInc (fracs [x, x, x]) 3 [z, z, z] (T - 3 * z).toNat ∧ apAt (fracs [x, x, x]) 3 0 = 0 ∧ apAt (fracs [x, x, x]) 3 1 = 1 := by
  have hf := floor_of h1 h2
  obtain ⟨h0, h1, h2⟩ := apAt_three (fracs [x, x, x]) (x - (x.floor : Int)) (by
    intro i hi
    rcases (show i = 0 ∨ i = 1 ∨ i = 2 by omega) with rfl | rfl | rfl <;> simp [fracs])
  refine ⟨?_, h0, h1⟩
  unfold apOut
  rw [qsum_three, hx, Rat.floor_intCast]
  simp only [List.length_cons, List.length_nil, Nat.reduceAdd, List.map_cons, List.map_nil, hf]
  rw [show isum [z, z, z] = 3 * z by simp [isum]; omega]

theorem shOut_ten : shOut 10 [1, 1, 1] = [4, 3, 3] := by
  obtain ⟨x, hx, he⟩ := three_parts 10
  unfold shOut
  rw [he]
  have e : ((10 : Int) : Rat) = 10 := rfl
  have e3 : ((3 : Int) : Rat) = 3 := rfl
  obtain ⟨h1, h2, h3⟩ := three_out x 10 3 hx (by grind) (by grind)
  rw [h1]
  simp [apInc, h2]
theorem shOut_minus_ten : shOut (-10) [1, 1, 1] = [-3, -3, -4] := by
  obtain ⟨x, hx, he⟩ := three_parts (-10)
  unfold shOut
  rw [he]
  have e : ((-10 : Int) : Rat) = -10 := rfl
  have e3 : ((-4 : Int) : Rat) = -4 := rfl
  obtain ⟨h1, h2, h3⟩ := three_out x (-10) (-4) hx (by grind) (by grind)
  rw [h1]
  simp [apInc, h2, h3]

end Go.Proofs.YtgihpfkjpfanmaaGreat

/- make.Mod. -/
namespace Go.Proofs.YtgihpfkjpfanmaaGreat
open Go.RowKit

/-- uint64(v) % n -/
def modU (v n : Int) : Int := (v % 18446744073709551616) % n

theorem make_Mod (w : World) (v n : Int) (_hv1 : -9223372036854775808 ≤ v) (_hv2 : v < 9223372036854775808) (hn : 0 < n) (hn2 : n < 1000000) :
    Calls Tryz.prog 22 #[.int .i64 v, .int .i64 n] w fun e w' => e = .returned (.int .i64 (modU v n)) ∧ w = w' := by
  go_enter Tryz.func22, Tryz.ntmps22
  go_wp2_with fail
  go_ret
  refine ⟨ret_int ?_, rfl⟩
  have hw : IntKind.u64.wrap v = v % 18446744073709551616 := by
    simp [IntKind.wrap, IntKind.signed, IntKind.bits]
  have h0 : 0 ≤ v % 18446744073709551616 := Int.emod_nonneg _ (by omega)
  rw [hw, Int.tmod_eq_emod_of_nonneg h0]
  have a := Int.emod_nonneg (v % 18446744073709551616) (show n ≠ 0 by omega)
  have b := Int.emod_lt_of_pos (v % 18446744073709551616) hn
  unfold modU
  generalize v % 18446744073709551616 % n = z at *
  unfold wrap64; omega

/-- A slice of int: its cells. -/
def IntsAt (w : World) (a : Option Addr) (l : List Int) : Prop := ∃ b o, a = some ⟨b, o, none⟩ ∧ ∀ i (hi : i < l.length), w.cell? ⟨b, o + i, none⟩ = some (.int .i64 l[i])

theorem IntsAt.ext {w w' : World} {a : Option Addr} {l : List Int} (h : IntsAt w a l) (hX : Ext w w') : IntsAt w' a l := by
  obtain ⟨b, o, rfl, hc⟩ := h
  exact ⟨b, o, rfl, fun i hi => (hX.cell (block_lt (hc i hi))).trans (hc i hi)⟩

/-- The same numbers: Ints says yes. -/
theorem r17_Ints_same (w : World) (a b : Option Addr) (c c' : Nat) (l : List Int) (hA : IntsAt w a l) (hB : IntsAt w b l) (hl : l.length < 1000000) :
    Calls Tryz.prog 88 #[.slice a l.length c, .slice b l.length c'] w fun e w' => e = .returned (.bool true) ∧ Ext w w' := by
  obtain ⟨b1, o1, rfl, hA⟩ := hA
  obtain ⟨b2, o2, rfl, hB⟩ := hB
  go_enter Tryz.func88, Tryz.ntmps88
  go_wp2_with fail
  go_loopw [5] (fun i wr => ∃ j : Nat, j ≤ l.length ∧ i = .int .i64 j ∧ Quiet w wr) (fun i _ => l.length - (intOf i).toNat)
  case atStart => exact ⟨0, Nat.zero_le _, rfl, Quiet.refl _⟩
  case round =>
    obtain ⟨j, hj, rfl, hq⟩ := hrel
    by_cases h0 : j < l.length
    · have hc := (hq.ext.cell (block_lt (hA j h0))).trans (hA j h0)
      have hc' := (hq.ext.cell (block_lt (hB j h0))).trans (hB j h0)
      have g1 : (j : Int) < (l.length : Int) := by omega
      have g2 : (0 : Int) ≤ (j : Int) := by omega
      go_wp2
      go_quiet (fail)
      go_wp2
      exact ⟨⟨j + 1, by omega, rfl, hq.drewN _⟩, by simp only [intOf]; omega⟩
    · have hj' : j = l.length := by omega
      subst hj'
      go_wp2
      go_ret
      exact ⟨rfl, hq.ext⟩

theorem r18_Ints_same (w : World) (a b : Option Addr) (c c' : Nat) (l : List Int) (hA : IntsAt w a l) (hB : IntsAt w b l) (hl : l.length < 1000000) :
    Calls Tryz.prog 36 #[.slice a l.length c, .slice b l.length c'] w fun e w' => e = .returned (.bool true) ∧ Ext w w' := by
  go_enter Tryz.func36, Tryz.ntmps36
  go_wp2_with fail
  refine (r17_Ints_same _ _ _ _ _ _ hA hB hl).mono ?_
  rintro e w1 ⟨rfl, hX⟩
  go_wp2_with fail
  go_ret
  exact ⟨rfl, hX⟩

end Go.Proofs.YtgihpfkjpfanmaaGreat
