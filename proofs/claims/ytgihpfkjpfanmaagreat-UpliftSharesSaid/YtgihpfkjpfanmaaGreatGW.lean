/- Texts of the proof: Sb5, Sb6, Sb7, Sb8, Sb9. -/
import Derived.Test.YtgihpfkjpfanmaaGreatGV
/- ref40.Share: the parts. -/
namespace Go.Proofs.YtgihpfkjpfanmaaGreat
open Go.RowKit

set_option maxHeartbeats 4000000 in
set_option maxRecDepth 100000 in
/-- The parts. -/
theorem r40_share_main (w : World) (T : Int) (a : Option Addr) (c L : Nat) (rs : List RVal) (qs : List Rat) (h : Rats w a c rs qs L) (hn : rs.length ≤ 128) (hK : RShort rs 1000) (hT1 : -281474976710656 ≤ T) (hT2 : T ≤ 281474976710656) (hL : L ≤ 5) (hSz : rsz (qsum qs) ≤ 700) (hpos : ∀ i (hi : i < rs.length), 0 ≤ (qs[i]'(by rw [h.len]; exact hi))) (hS0 : ¬ qsum qs = 0) :
    Calls Tryz.prog 46 #[.int .i64 T, .slice a rs.length c] w (ApRes (qs.map fun q => ((T : Int) : Rat) * q / qsum qs) w) := by
  have hle := h.le
  have hcap := h.cap
  have d1 : decide ((281474976710656 : Int) < T) = false := by simp; omega
  have d2 : decide (T < (-281474976710656 : Int)) = false := by simp; omega
  have d3 : decide ((128 : Int) < (rs.length : Int)) = false := by simp; omega
  go_enter Tryz.func46, Tryz.ntmps46
  go_wp2_with fail
  go_loopw [6] (fun ii wr => ∃ j : Nat, j ≤ rs.length ∧ Ext w wr ∧ ii = .int .i64 j) (fun ii _ => rs.length - (intOf ii).toNat)
  case atStart => exact ⟨0, Nat.zero_le _, Ext.refl _, rfl⟩
  case round =>
    obtain ⟨j, hj, hE, rfl⟩ := hrel
    by_cases hlt : j < rs.length
    · obtain ⟨b, o, rfl⟩ := h.at (by omega)
      obtain ⟨b', o', e', c0, c1, c2⟩ := (h.ext hE).cell j hlt
      cases e'
      obtain ⟨n2, m2', g1, g2, gq, gl1, gl2⟩ := h.num j hlt
      obtain ⟨ks1, ks2⟩ := hK j hlt
      have hSg := fun V (hV : Ext w V) => r3_Sign V rs[j].s _ _ _ _ _ _ _ _ (g1.ext hV) (g2.ext hV) (by omega) (by omega)
      rw [← gq] at hSg
      have z1 : decide ((qs[j]'(by rw [h.len]; exact hlt)).num.sign < 0) = false := decide_eq_false (fun hh => absurd (num_sign_neg.1 hh) (Rat.not_lt.2 (hpos j hlt)))
      generalize (qs[j]'(by rw [h.len]; exact hlt)).num.sign = z at hSg z1
      have HSg := Lib.hid hSg
      clear hSg gq
      generalize rs[j] = y at *
      go_wp2_with fail
      refine (HSg.out _ hE).mono ?_
      rintro e w2 ⟨rfl, x2⟩
      go_wp2_with fail
      go_roundw
      case rel => exact ⟨j + 1, by omega, hE.trans x2, by go_num⟩
      case measure => simp [intOf] <;> omega
    · obtain rfl : j = rs.length := by omega
      have hszq := qsum_short w a c L rs qs h hn (by omega)
      have hSum := fun V (hV : Ext w V) => r3_Sum V a c rs qs L (h.ext hV) (by have := Nat.mul_le_mul hn (show L + 2 ≤ 1002 by omega); omega) (fun i hi => by have := hK i hi; omega)
      have hSg : ∀ V (r : RVal) (B : Nat), IsCan V r (qsum qs) B → Calls Tryz.prog 43 #[.agg #[.bool r.s, .slice r.a r.k r.c, .slice r.b r.j r.d]] V fun e w' => e = .returned (.int .i64 (qsum qs).num.sign) ∧ Ext V w' := by
        intro V r B hr
        have hs := hr.short (Nat.le_of_lt hszq)
        have h5 := r3_Sign V r.s _ _ _ _ _ _ _ _ hr.num hr.den (by omega) (by omega)
        rw [hr.s, sgn_num, Rat.mkRat_self] at h5
        rw [hr.s]
        exact h5
      have t0 : ((qsum qs).num.sign == 0) = false := by rw [beq_eq_false_iff_ne]; exact fun e => hS0 (sign_zero_iff.1 e)
      generalize (qsum qs).num.sign = sg at hSg t0
      have HSum := Lib.hid hSum; have HSg := Lib.hid hSg
      clear hSum hSg
      go_wp2_with fail
      refine (HSum.out _ hE).mono ?_
      intro e w2 hN
      obtain ⟨r2, rfl, hr2, x2⟩ := hN.isCan
      clear hN
      go_upto_region 9 with fail
      obtain ⟨W3, hW3, x3, Z3, A3⟩ := boxes1 w2 55 [.bool r2.s, .slice r2.a r2.k r2.c, .slice r2.b r2.j r2.d]
      rw [← hW3]
      clear hW3
      obtain ⟨k0, k1, k2, -, -, -⟩ := box3 A3 (Ext.refl _)
      go_wp2_with fail
      refine (HSg.out _ _ _ (hr2.ext x3)).mono ?_
      rintro e w4 ⟨rfl, x4⟩
      have hr4 := hr2.ext (x3.trans x4)
      have A4 := A3.ext x4
      have X4 : Ext w w4 := ((hE.trans x2).trans x3).trans x4
      clear k0 k1 k2 hr2 A3 x3 x4 x2 HSg HSum
      go_wp2_with fail
      have hF := fun V => r3_FromInt V T (by omega) (by omega)
      have hTz : rsz ((T : Int) : Rat) ≤ 2 := by rw [rsz_int]; have := len_natAbs_i64 (z := T) (by omega) (by omega); omega
      obtain ⟨tq, htq⟩ : ∃ tq, tq = ((T : Int) : Rat) := ⟨_, rfl⟩
      rw [← htq] at hF hTz
      have HTQ := Lib.hid htq
      clear htq
      have HF := Lib.hid hF
      have HA4 := Lib.hid A4
      have HR4 := Lib.hid hr4
      clear hF A4 hr4
      go_loopw [8, 9] (fun v ii wr => ∃ j : Nat, j ≤ rs.length ∧ (∃ prs : List RVal, prs.length = j ∧ RShort prs 900 ∧ RatRow w4 wr v prs ((qs.take j).map fun q => tq * q / qsum qs) 900) ∧ ii = .int .i64 j) (fun _ ii _ => rs.length - (intOf ii).toNat)
      case atStart => exact ⟨0, Nat.zero_le _, ⟨[], rfl, RShort.nil _, RatRow.start (Ext.refl _) _⟩, rfl⟩
      case round =>
        obtain ⟨j, hj, ⟨prs, hpl, hps, hrow⟩, rfl⟩ := hrel
        by_cases hlt : j < rs.length
        · have hjq : j < qs.length := by rw [h.len]; exact hlt
          obtain ⟨b, o, rfl⟩ := h.at (by omega)
          obtain ⟨b', o', e', c0, c1, c2⟩ := (h.ext X4).cell j hlt
          cases e'
          obtain ⟨k0, k1, k2, -, -, -⟩ := box3 HA4.out (Ext.refl _)
          obtain ⟨n6, m6, g1, g2, gq, gl1, gl2⟩ := h.num j hlt
          obtain ⟨ks1, ks2⟩ := hK j hlt
          have hqz := (h.num j hlt).rsz
          have hMu : ∀ V, Ext w4 V → ∀ (r : RVal) (B : Nat), IsCan V r tq B → Calls Tryz.prog 31 #[.agg #[.bool r.s, .slice r.a r.k r.c, .slice r.b r.j r.d], .agg #[.bool rs[j].s, .slice rs[j].a rs[j].k rs[j].c, .slice rs[j].b rs[j].j rs[j].d]] V (NewRat (tq * qs[j]) V) := by
            intro V hV r B hr
            have hs := hr.short hTz
            have h5 := r3_Mul V r.s _ _ _ _ _ _ _ _ hr.num hr.den rs[j].s _ _ _ _ _ _ _ _ (g1.ext (X4.trans hV)) (g2.ext (X4.trans hV)) (by omega) (by omega) (by omega) (by omega)
            rw [← gq, hr.s, sgn_num, Rat.mkRat_self] at h5
            rw [hr.s]
            exact h5
          have hmz : rsz (tq * qs[j]) ≤ 100 := by have := rsz_mul tq qs[j]; omega
          have hOv : ∀ V, Ext w4 V → ∀ (r : RVal) (B : Nat), IsCan V r (tq * qs[j]) B → Calls Tryz.prog 97 #[.agg #[.bool r.s, .slice r.a r.k r.c, .slice r.b r.j r.d], .agg #[.bool r2.s, .slice r2.a r2.k r2.c, .slice r2.b r2.j r2.d]] V (NewRat (tq * qs[j] / qsum qs) V) := by
            intro V hV r B hr
            have hs := hr.short hmz
            have hr2 := HR4.out.ext hV
            have hs2 := hr2.short (Nat.le_of_lt hszq)
            have h5 := r3_Over V r.s _ _ _ _ _ _ _ _ hr.num hr.den r2.s _ _ _ _ _ _ _ _ hr2.num hr2.den (by omega) (by omega) (by omega) (by omega) (by rw [hr2.s, sgn_num, Rat.mkRat_self]; exact hS0)
            rw [hr.s, sgn_num, Rat.mkRat_self, hr2.s, sgn_num, Rat.mkRat_self] at h5
            rw [hr.s, hr2.s]
            exact h5
          clear gq g1 g2
          generalize rs[j] = y at *
          have hKK : ∀ w', Ext w4 w' → w'.cell? ⟨b, o + j * 3, none⟩ = some (.bool y.s) ∧ w'.cell? ⟨b, o + j * 3 + 1, none⟩ = some (.slice y.a y.k y.c) ∧ w'.cell? ⟨b, o + j * 3 + 2, none⟩ = some (.slice y.b y.j y.d) ∧ w'.cell? ⟨w2.heap.size, 0, none⟩ = some (.bool r2.s) ∧ w'.cell? ⟨w2.heap.size, 1, none⟩ = some (.slice r2.a r2.k r2.c) ∧ w'.cell? ⟨w2.heap.size, 2, none⟩ = some (.slice r2.b r2.j r2.d) := fun V hV => ⟨cell_ext hV c0, cell_ext hV c1, cell_ext hV c2, cell_ext hV k0, cell_ext hV k1, cell_ext hV k2⟩
          have HKK := Lib.hid hKK; have HMu := Lib.hid hMu; have HOv := Lib.hid hOv; have HROW := Lib.hid hrow
          have v0 : Ext w4 wr.drew := hrow.ext.drew
          have bj0 : (0 : Int) ≤ (j : Int) := by omega
          have bj1 : (j : Int) < (rs.length : Int) := by omega
          clear hKK hMu hOv c0 c1 c2 k0 k1 k2 hrow
          go_wp2_with fail
          refine wp_region_held_drew (S := fun w' => w'.cell? ⟨b, o + j * 3, none⟩ = some (.bool y.s) ∧ w'.cell? ⟨b, o + j * 3 + 1, none⟩ = some (.slice y.a y.k y.c) ∧ w'.cell? ⟨b, o + j * 3 + 2, none⟩ = some (.slice y.b y.j y.d) ∧ w'.cell? ⟨w2.heap.size, 0, none⟩ = some (.bool r2.s) ∧ w'.cell? ⟨w2.heap.size, 1, none⟩ = some (.slice r2.a r2.k r2.c) ∧ w'.cell? ⟨w2.heap.size, 2, none⟩ = some (.slice r2.b r2.j r2.d)) (by kernel_rfl) (HKK.out _ v0) (fun hHeld => ?_)
          refine wpAnyH_take (i := 0) (v := u8) rfl (by kernel_rfl) (by kernel_rfl) (by kernel_rfl) (fun _ _ _ h => h) (Or.inl ⟨by rfl, fun w hSw => by (obtain ⟨e0, e1, e2, e3, e4, e5⟩ := hSw; go_simp)⟩) hHeld ?_
          simp only [List.getElem_toArray, List.getElem_cons_zero, Act.put, List.setIfInBounds_toArray, List.set_cons_zero, List.set_cons_succ]
          refine wpAnyH_take (i := 1) (v := .int .i64 T) rfl (by kernel_rfl) (by kernel_rfl) (by kernel_rfl) (fun _ _ _ h => h) (Or.inl ⟨by rfl, fun w hSw => by (obtain ⟨e0, e1, e2, e3, e4, e5⟩ := hSw; go_simp)⟩) hHeld ?_
          simp only [List.getElem_toArray, List.getElem_cons_succ, List.getElem_cons_zero, Act.put, List.setIfInBounds_toArray, List.set_cons_zero, List.set_cons_succ]
          refine wpAnyH_take (i := 3) (v := .slice (some ⟨b, o, none⟩) rs.length c) rfl (by kernel_rfl) (by kernel_rfl) (by kernel_rfl) (fun _ _ _ h => h) (Or.inl ⟨by rfl, fun w hSw => by (obtain ⟨e0, e1, e2, e3, e4, e5⟩ := hSw; go_simp)⟩) hHeld ?_
          simp only [List.getElem_toArray, List.getElem_cons_succ, List.getElem_cons_zero, Act.put, List.setIfInBounds_toArray, List.set_cons_zero, List.set_cons_succ]
          refine wpAnyH_take (i := 4) (v := .int .i64 (j : Int)) rfl (by kernel_rfl) (by kernel_rfl) (by kernel_rfl) (fun _ _ _ h => h) (Or.inl ⟨by rfl, fun w hSw => by (obtain ⟨e0, e1, e2, e3, e4, e5⟩ := hSw; go_simp)⟩) hHeld ?_
          simp only [List.getElem_toArray, List.getElem_cons_succ, List.getElem_cons_zero, Act.put, List.setIfInBounds_toArray, List.set_cons_zero, List.set_cons_succ]
          refine wpAnyH_take (i := 5) (v := .pointer (some ⟨b, o + j * 3, none⟩)) rfl (by kernel_rfl) (by kernel_rfl) (by kernel_rfl) (fun _ _ _ h => h) (Or.inl ⟨by rfl, fun w hSw => by (obtain ⟨e0, e1, e2, e3, e4, e5⟩ := hSw; go_simp)⟩) hHeld ?_
          simp only [List.getElem_toArray, List.getElem_cons_succ, List.getElem_cons_zero, Act.put, List.setIfInBounds_toArray, List.set_cons_zero, List.set_cons_succ]
          refine wpAnyH_take (i := 6) (v := .agg #[.bool y.s, .slice y.a y.k y.c, .slice y.b y.j y.d]) rfl (by kernel_rfl) (by kernel_rfl) (by kernel_rfl) (fun _ _ _ h => h) (Or.inl ⟨by rfl, fun w hSw => by (obtain ⟨e0, e1, e2, e3, e4, e5⟩ := hSw; go_simp)⟩) hHeld ?_
          simp only [List.getElem_toArray, List.getElem_cons_succ, List.getElem_cons_zero, Act.put, List.setIfInBounds_toArray, List.set_cons_zero, List.set_cons_succ]
          refine wpAnyH_take (i := 8) (v := .agg #[.bool r2.s, .slice r2.a r2.k r2.c, .slice r2.b r2.j r2.d]) rfl (by kernel_rfl) (by kernel_rfl) (by kernel_rfl) (fun _ _ _ h => h) (Or.inl ⟨by rfl, fun w hSw => by (obtain ⟨e0, e1, e2, e3, e4, e5⟩ := hSw; go_simp)⟩) hHeld ?_
          simp only [List.getElem_toArray, List.getElem_cons_succ, List.getElem_cons_zero, Act.put, List.setIfInBounds_toArray, List.set_cons_zero, List.set_cons_succ]
          refine wpAnyH_ready (rs := [2]) (by kernel_rfl) (by simp) ?_
          refine AllReadyH.cons rfl (fun K hK => ?_) AllReadyH.nil
          go_simp
          refine (HF.out _).mono ?_
          intro e z1 hN
          obtain ⟨q1, rfl, hq1, xq1⟩ := hN.isCan
          clear hN
          have v1 := v0.trans xq1
          refine hK.out _ _ (HKK.out _ v1) (fun hHeld => ?_)
          clear hK K
          try simp only [List.getElem_toArray, List.getElem_cons_succ, List.getElem_cons_zero, Act.put, List.setIfInBounds_toArray, List.set_cons_zero, List.set_cons_succ]
          refine wpAnyH_ready (rs := [7]) (by kernel_rfl) (by simp) ?_
          refine AllReadyH.cons rfl (fun K hK => ?_) AllReadyH.nil
          go_simp
          refine (HMu.out _ v1 _ _ hq1).mono ?_
          intro e z2 hN
          obtain ⟨q2, rfl, hq2, xq2⟩ := hN.isCan
          clear hN
          have v2 := v1.trans xq2
          refine hK.out _ _ (HKK.out _ v2) (fun hHeld => ?_)
          clear hK K
          try simp only [List.getElem_toArray, List.getElem_cons_succ, List.getElem_cons_zero, Act.put, List.setIfInBounds_toArray, List.set_cons_zero, List.set_cons_succ]
          refine wpAnyH_ready (rs := [9]) (by kernel_rfl) (by simp) ?_
          refine AllReadyH.cons rfl (fun K hK => ?_) AllReadyH.nil
          go_simp
          refine (HOv.out _ v2 _ _ hq2).mono ?_
          intro e z3 hN
          obtain ⟨q3, rfl, hq3, xq3⟩ := hN.isCan
          clear hN
          have v3 := v2.trans xq3
          refine hK.out _ _ (HKK.out _ v3) (fun hHeld => ?_)
          clear hK K
          try simp only [List.getElem_toArray, List.getElem_cons_succ, List.getElem_cons_zero, Act.put, List.setIfInBounds_toArray, List.set_cons_zero, List.set_cons_succ]
          have hro := HROW.out.extend (((Ext.refl _).drew.trans xq1).trans (xq2.trans xq3))
          have hOff : Off q3 u8.ownBlock := off_fresh (HROW.out.extend (((Ext.refl _).drew.trans xq1).trans xq2)).own hq3.fa hq3.fb
          have HRO := Lib.hid hro
          have HOFF := Lib.hid hOff
          have HQ3 := Lib.hid hq3
          clear hro hOff hq1 hq2 hq3
          refine wpAnyH_ready (rs := [10]) (by kernel_rfl) (by simp) ?_
          refine AllReadyH.cons rfl (fun K hK => ?_) AllReadyH.nil
          go_simp
          refine hK.out _ _ (HKK.out _ (v3.alloc _)) (fun hHeld => ?_)
          clear hK K
          try simp only [List.getElem_toArray, List.getElem_cons_succ, List.getElem_cons_zero, Act.put, List.setIfInBounds_toArray, List.set_cons_zero, List.set_cons_succ]
          refine wpAnyH_ready (rs := [11]) (by kernel_rfl) (by simp) ?_
          refine AllReadyH.cons rfl (fun K hK => ?_) AllReadyH.nil
          rw [if_pos (by rfl)]
          refine wp_append_at _ (.tmp 44) (.tmp 54) 48 rfl w4.heap.size 55 (.agg zero3.toArray) 3 56 Tryz.underlying48 Tryz.info_rat rfl (by decide) u8 prs.length (ratCells prs) rfl ?_ ⟨z3.heap.size, 0, none⟩ 1 1 q3.cells rfl rfl ?_ ?_ ?_ (by decide) ?_ ?_
          · exact ownsRow_ext HRO.out.own ((Ext.refl _).alloc _)
          · exact cells_new z3 55 q3.cells
          · exact ratVals_one q3
          · omega
          · have := v3.size; simp; omega
          intro v5 w5 ho he hb hz hv
          have xa : Ext z3 (z3.alloc (.cells #[.bool q3.s, .slice q3.a q3.k q3.c, .slice q3.b q3.j q3.d] 55)) := (Ext.refl _).alloc _
          have v5' : Ext w4 w5 := he.out w4 (v3.trans xa) (Nat.le_refl _)
          have hpz : rsz (tq * qs[j] / qsum qs) ≤ 900 := by have := rsz_div (tq * qs[j]) (qsum qs); omega
          have hn5 := (HRO.out.extend xa).snoc ((HQ3.out.isRat.mono hpz).ext xa) HOFF.out ho.out v5' hb.out hv.out
          have hks := HQ3.out.short hpz
          refine hK.out _ _ (HKK.out _ v5') (fun hHeld => ?_)
          clear hK K
          try simp only [List.getElem_toArray, List.getElem_cons_succ, List.getElem_cons_zero, Act.put, List.setIfInBounds_toArray, List.set_cons_zero, List.set_cons_succ]
          refine wpAnyH_take (i := 12) (v := v5) rfl (by kernel_rfl) (by kernel_rfl) (by kernel_rfl) (fun _ _ _ h => h) (Or.inl ⟨by rfl, fun w hSw => by (obtain ⟨e0, e1, e2, e3, e4, e5⟩ := hSw; go_simp)⟩) hHeld ?_
          simp only [List.getElem_toArray, List.getElem_cons_succ, List.getElem_cons_zero, Act.put, List.setIfInBounds_toArray, List.set_cons_zero, List.set_cons_succ]
          refine wpAnyH_done (by kernel_rfl) ?_ _
          have HN5 := Lib.hid hn5
          clear hn5 ho he hb hz hv hHeld
          go_wp2_with fail
          exact ⟨⟨j + 1, by omega, ⟨prs ++ [q3], by simp [hpl], hps.snoc hks.1 hks.2, by rw [List.take_succ_eq_append_getElem hjq, List.map_append]; exact HN5.out⟩, by go_num⟩, by simp only [intOf]; omega⟩
        · obtain rfl : j = rs.length := by omega
          obtain ⟨a5, c5, rfl, hR5⟩ := hrow.rats (by omega)
          rw [show qs.take rs.length = qs from List.take_of_length_le (by rw [h.len]; exact Nat.le_refl _)] at hR5
          have hap := r40_all wr a5 c5 900 prs _ hR5 (by omega) (hps.mono (by omega))
          have hXw := X4.trans hrow.ext
          rw [hpl, HTQ.out] at hap
          rw [hpl]
          have HAP := Lib.hid hap
          have HX := Lib.hid hXw
          have hsw := hXw.size
          clear hap hrow hpl hR5 hXw
          go_wp2_with fail
          refine HAP.out.mono ?_
          rintro e w7 (⟨h0, b7, rfl, hb7, hA7, x7⟩ | ⟨h0, rfl, x7⟩)
          · go_wp2_with fail
            go_ret2
            exact Or.inl ⟨h0, b7, rfl, by omega, hA7, HX.out.trans x7⟩
          · go_wp2_with fail
            go_ret2
            exact Or.inr ⟨h0, rfl, HX.out.trans x7⟩

end Go.Proofs.YtgihpfkjpfanmaaGreat

/- uplift.Share and ref40.Share give the same. -/
namespace Go.Proofs.YtgihpfkjpfanmaaGreat
open Go.RowKit

theorem parts_same (T : Int) (qs : List Rat) : (qs.map fun q => ((T : Int) : Rat) * q / qsum qs) = qs.map fun q => ((T : Int) : Rat) / qsum qs * q := by
  apply List.map_congr_left
  intro q _
  rw [Rat.div_def, Rat.div_def]; grind

/-- The parts of a total are never refused. -/
theorem parts_apE (T : Int) (qs : List Rat) (hT1 : -281474976710656 ≤ T) (hT2 : T ≤ 281474976710656) (hn : qs.length ≤ 128) (hp : ∀ x ∈ qs, 0 ≤ x) (hS : ¬ qsum qs = 0) : apE (qs.map fun q => ((T : Int) : Rat) / qsum qs * q) = 0 := by
  unfold apE
  rw [if_neg, if_pos]
  · rw [parts_sum T qs hS, Rat.floor_intCast]
  · rintro (h | ⟨q, hq, hb⟩)
    · simp at h; omega
    · obtain ⟨x, hx, rfl⟩ := List.mem_map.1 hq
      exact hb (part_ok T _ _ hT1 hT2 (hp x hx) (le_qsum qs hp x hx) hS)

end Go.Proofs.YtgihpfkjpfanmaaGreat

/- uplift.Share and ref40.Share: one result. -/
namespace Go.Proofs.YtgihpfkjpfanmaaGreat
open Go.RowKit

open Classical in
noncomputable def shE (T : Int) (qs : List Rat) : Int := if 128 < qs.length ∨ 281474976710656 < T ∨ T < -281474976710656 then 8 else if ∃ q ∈ qs, q < 0 then 3 else if qsum qs = 0 then 20 else 0
/-- What Share returns. -/
def ShRes (T : Int) (qs : List Rat) (w : World) (e : Ending) (w' : World) : Prop :=
  (shE T qs = 0 ∧ ApGood (shOut T qs) w e w') ∨ (¬ shE T qs = 0 ∧ e = .returned (.tuple #[.slice none 0 0, .int .i64 (shE T qs)]) ∧ Ext w w')
theorem first_neg (qs : List Rat) (h : ∃ q ∈ qs, q < 0) : ∃ j, ∃ hj : j < qs.length, qs[j] < 0 ∧ ∀ i (hi : i < j), 0 ≤ (qs[i]'(by omega)) := by
  induction qs with
  | nil => obtain ⟨q, hq, _⟩ := h; simp at hq
  | cons a l ih =>
    by_cases ha : 0 ≤ a
    · obtain ⟨q, hq, hb⟩ := h
      rcases List.mem_cons.1 hq with rfl | hq
      · exact absurd hb (Rat.not_lt.2 ha)
      · obtain ⟨j, hj, h1, h2⟩ := ih ⟨q, hq, hb⟩
        refine ⟨j + 1, by simpa using hj, h1, ?_⟩
        intro i hi
        cases i with
        | zero => exact ha
        | succ i => exact h2 i (by omega)
    · exact ⟨0, by simp, Rat.not_le.1 ha, fun i hi => absurd hi (Nat.not_lt_zero _)⟩

end Go.Proofs.YtgihpfkjpfanmaaGreat

/- uplift.Share, whole. -/
namespace Go.Proofs.YtgihpfkjpfanmaaGreat
open Go.RowKit

theorem share_all (w : World) (T : Int) (a : Option Addr) (c L : Nat) (rs : List RVal) (qs : List Rat) (h : Rats w a c rs qs L) (hL : L < 100) :
    Calls Tryz.prog 45 #[.int .i64 T, .slice a rs.length c] w (ShRes T qs w) := by
  have hql := h.len
  unfold ShRes shE
  by_cases h1 : 128 < qs.length ∨ 281474976710656 < T ∨ T < -281474976710656
  · refine (share_lim w T a rs.length c h.short (by omega)).mono ?_
    rintro e w' ⟨he, rfl⟩
    rw [if_pos h1]
    exact Or.inr ⟨by decide, he, Ext.refl _⟩
  · rw [if_neg h1]
    by_cases h2 : ∃ q ∈ qs, q < 0
    · obtain ⟨j, hj, hb, hg⟩ := first_neg qs h2
      refine (share_neg w T a c L rs qs h (by omega) (by omega) (by omega) j (by omega) hg hb).mono ?_
      rintro e w' ⟨he, hx⟩
      rw [if_pos h2]
      exact Or.inr ⟨by decide, he, hx⟩
    · rw [if_neg h2]
      have hp : ∀ x ∈ qs, 0 ≤ x := fun x hx => Rat.not_lt.1 (fun hh => h2 ⟨x, hx, hh⟩)
      by_cases h3 : qsum qs = 0
      · rw [if_pos h3]
        refine (share_none w T a c L rs qs h (by omega) hL (by omega) (by omega) (fun i hi => hp _ (List.getElem_mem _)) h3).mono ?_
        rintro e w' ⟨he, hx⟩
        exact Or.inr ⟨by decide, he, hx⟩
      · rw [if_neg h3]
        have h0 : 0 < rs.length := by
          rcases Nat.eq_zero_or_pos rs.length with h5 | h5
          · have : qs = [] := List.eq_nil_of_length_eq_zero (by omega)
            rw [this] at h3
            exact absurd rfl h3
          · exact h5
        exact (share_ok w T a c L rs qs h (by omega) hL (by omega) (by omega) (fun i hi => hp _ (List.getElem_mem _)) h0 h3).mono (fun e w' he => Or.inl ⟨rfl, he⟩)

end Go.Proofs.YtgihpfkjpfanmaaGreat

/- ref40.Share, whole. -/
namespace Go.Proofs.YtgihpfkjpfanmaaGreat
open Go.RowKit

theorem r40_share_all (w : World) (T : Int) (a : Option Addr) (c L : Nat) (rs : List RVal) (qs : List Rat) (h : Rats w a c rs qs L) (hL : L ≤ 5) (hK : RShort rs 1000) (hn : rs.length ≤ 30) :
    Calls Tryz.prog 46 #[.int .i64 T, .slice a rs.length c] w (ShRes T qs w) := by
  have hql := h.len
  unfold ShRes shE
  by_cases h1 : 128 < qs.length ∨ 281474976710656 < T ∨ T < -281474976710656
  · refine (r40_share_lim w T a rs.length c h.short (by omega)).mono ?_
    rintro e w' ⟨he, rfl⟩
    rw [if_pos h1]
    exact Or.inr ⟨by decide, he, Ext.refl _⟩
  · rw [if_neg h1]
    by_cases h2 : ∃ q ∈ qs, q < 0
    · obtain ⟨j, hj, hb, hg⟩ := first_neg qs h2
      refine (r40_share_neg w T a c L rs qs h (by omega) hK (by omega) (by omega) j (by omega) hg hb).mono ?_
      rintro e w' ⟨he, hx⟩
      rw [if_pos h2]
      exact Or.inr ⟨by decide, he, hx⟩
    · rw [if_neg h2]
      have hp : ∀ x ∈ qs, 0 ≤ x := fun x hx => Rat.not_lt.1 (fun hh => h2 ⟨x, hx, hh⟩)
      by_cases h3 : qsum qs = 0
      · rw [if_pos h3]
        refine (r40_share_none w T a c L rs qs h (by omega) hK (by omega) (by omega) (by omega) (fun i hi => hp _ (List.getElem_mem _)) h3).mono ?_
        rintro e w' ⟨he, hx⟩
        exact Or.inr ⟨by decide, he, hx⟩
      · rw [if_neg h3]
        have h5 := rsz_qsum qs (L + 1) (fun i hi => by have := (h.num i (by rw [← h.len]; exact hi)).rsz; omega) qs.length (Nat.le_refl _)
        rw [List.take_length, h.len] at h5
        have h6 := Nat.mul_le_mul hn (show L + 1 + 1 ≤ 7 by omega)
        have h7 := r40_share_main w T a c L rs qs h (by omega) hK (by omega) (by omega) hL (by omega) (fun i hi => hp _ (List.getElem_mem _)) h3
        rw [parts_same] at h7
        refine h7.mono ?_
        have hE := parts_apE T qs (by omega) (by omega) (by omega) hp h3
        rintro e w' (⟨_, hg⟩ | ⟨hb, _⟩)
        · exact Or.inl ⟨rfl, hg⟩
        · exact absurd hE hb

end Go.Proofs.YtgihpfkjpfanmaaGreat
