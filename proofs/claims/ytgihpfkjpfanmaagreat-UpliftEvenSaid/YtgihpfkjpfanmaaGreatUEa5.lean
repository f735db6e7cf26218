/- Texts of the proof: Rat7, Rat8, Rats, Rat9, Ap1, Sort, Ap2. -/
import Derived.Test.YtgihpfkjpfanmaaGreatUEa4
import Derived.Deep.DeepCutAuto
import Derived.Test.YtgihpfkjpfanmaaGreatProg
import Derived.Shelf.SlSortCmp.NoneTotal
/- Contracts of rational.Add, Sub, Div. -/
namespace Go.Proofs.YtgihpfkjpfanmaaGreat
open Go.RowKit

theorem sign_zero_iff {p : Rat} : p.num.sign = 0 ↔ p = 0 := by rw [Int.sign_eq_zero_iff_zero, Rat.num_eq_zero]
theorem mkRat_add (x x' : Int) (y y' : Nat) (h : 0 < y) (h' : 0 < y') : mkRat (x * y' + x' * y) (y * y') = mkRat x y + mkRat x' y' := (Rat.mkRat_add_mkRat x x' (by omega) (by omega)).symm
theorem mkRat_add_same (x x' : Int) (y : Nat) (h : 0 < y) : mkRat (x + x') y = mkRat x y + mkRat x' y := by
  rw [← mkRat_add _ _ _ _ h h, ← Int.add_mul, Rat.mkRat_mul_right (by omega)]
theorem len_intAdd (x y : Int) : len (x + y).natAbs ≤ max (len x.natAbs) (len y.natAbs) + 1 :=
  Nat.le_trans (len_mono (Int.natAbs_add_le x y)) (len_add _ _)

set_option maxHeartbeats 1000000 in
/-- rational.Add, the first number is 0. -/
theorem rat_Add_zero1 (w : World) (s : Bool) (a b : Option Addr) (k c j d n m : Nat) (h : Raw w a k c n) (g : Raw w b j d m) (s' : Bool) (a' b' : Option Addr) (k' c' j' d' n' m' : Nat) (h' : Raw w a' k' c' n') (g' : Raw w b' j' d' m') (b1 : len n < 100000000) (b2 : len m < 100000000) (b1' : len n' < 100000000) (b2' : len m' < 100000000) (h0 : mkRat (sgn s n) m = 0) :
    Calls Tryz.prog 136 #[.agg #[.bool s, .slice a k c, .slice b j d], .agg #[.bool s', .slice a' k' c', .slice b' j' d']] w (NewRat (mkRat (sgn s n) m + mkRat (sgn s' n') m') w) := by
  have hs : (mkRat (sgn s n) m).num.sign = 0 := sign_zero_iff.2 h0
  have H0 := Lib.hid h0; clear h0
  go_enter Tryz.func136, Tryz.ntmps136
  go_wp2_with fail
  obtain ⟨W, hW, x0, Z0, A0, A1, A2⟩ := boxes3 w 55 [.bool s, .slice a k c, .slice b j d] 55 [.bool s', .slice a' k' c', .slice b' j' d'] 55 [.bool false, .slice none 0 0, .slice none 0 0]
  rw [← hW]
  clear hW
  obtain ⟨k0_0, k0_1, k0_2, f0_0, f0_1, f0_2⟩ := box3 A0 (Ext.refl _)
  have z0 := (A0.ext (Ext.refl _)).lt
  obtain ⟨k1_0, k1_1, k1_2, f1_0, f1_1, f1_2⟩ := box3 A1 (Ext.refl _)
  have z1 := (A1.ext (Ext.refl _)).lt
  obtain ⟨k2_0, k2_1, k2_2, f2_0, f2_1, f2_2⟩ := box3 A2 (Ext.refl _)
  have z2 := (A2.ext (Ext.refl _)).lt
  refine (rat_Sign _ _ _ _ _ _ _ _ _ _ (h.ext x0) (g.ext x0)).mono ?_
  rintro e w1 ⟨rfl, hx1⟩
  obtain ⟨k0_0, k0_1, k0_2, f0_0, f0_1, f0_2⟩ := box3 A0 hx1
  have z0 := (A0.ext hx1).lt
  obtain ⟨k1_0, k1_1, k1_2, f1_0, f1_1, f1_2⟩ := box3 A1 hx1
  have z1 := (A1.ext hx1).lt
  obtain ⟨k2_0, k2_1, k2_2, f2_0, f2_1, f2_2⟩ := box3 A2 hx1
  have z2 := (A2.ext hx1).lt
  rw [hs]
  clear hs
  go_wp2_with fail
  refine (rat_Norm _ _ _ _ _ _ _ _ _ _ ((h'.ext x0).ext hx1) ((g'.ext x0).ext hx1) b1' b2').mono ?_
  intro e wz hN
  rw [← Rat.zero_add (mkRat (sgn s' n') m'), ← H0.out] at hN
  obtain ⟨az, cz, az', cz', rfl, hrz, hfz, hrz', hfz', hxz⟩ := id hN
  obtain ⟨k0_0, k0_1, k0_2, f0_0, f0_1, f0_2⟩ := box3 A0 (hx1.trans hxz)
  have z0 := (A0.ext (hx1.trans hxz)).lt
  obtain ⟨k1_0, k1_1, k1_2, f1_0, f1_1, f1_2⟩ := box3 A1 (hx1.trans hxz)
  have z1 := (A1.ext (hx1.trans hxz)).lt
  obtain ⟨k2_0, k2_1, k2_2, f2_0, f2_1, f2_2⟩ := box3 A2 (hx1.trans hxz)
  have z2 := (A2.ext (hx1.trans hxz)).lt
  go_wp2
  exact bodyPost_ret (by simp [results, Tryz.results136, go_sem, *]) rfl (NewRat.touch (hN.base hx1) x0 (Touch.three _ (by omega) (by rw [Z0.out]; omega) _ _ _))

set_option maxHeartbeats 1000000 in
/-- rational.Add, the second number is 0. -/
theorem rat_Add_zero2 (w : World) (s : Bool) (a b : Option Addr) (k c j d n m : Nat) (h : Raw w a k c n) (g : Raw w b j d m) (s' : Bool) (a' b' : Option Addr) (k' c' j' d' n' m' : Nat) (h' : Raw w a' k' c' n') (g' : Raw w b' j' d' m') (b1 : len n < 100000000) (b2 : len m < 100000000) (b1' : len n' < 100000000) (b2' : len m' < 100000000) (hn0 : ¬ mkRat (sgn s n) m = 0) (h0 : mkRat (sgn s' n') m' = 0) :
    Calls Tryz.prog 136 #[.agg #[.bool s, .slice a k c, .slice b j d], .agg #[.bool s', .slice a' k' c', .slice b' j' d']] w (NewRat (mkRat (sgn s n) m + mkRat (sgn s' n') m') w) := by
  have hs : (mkRat (sgn s' n') m').num.sign = 0 := sign_zero_iff.2 h0
  have hs1 : ((mkRat (sgn s n) m).num.sign == 0) = false := by rw [beq_eq_false_iff_ne]; exact fun h => hn0 (sign_zero_iff.1 h)
  have H0 := Lib.hid h0; clear h0 hn0
  go_enter Tryz.func136, Tryz.ntmps136
  go_wp2_with fail
  obtain ⟨W, hW, x0, Z0, A0, A1, A2⟩ := boxes3 w 55 [.bool s, .slice a k c, .slice b j d] 55 [.bool s', .slice a' k' c', .slice b' j' d'] 55 [.bool false, .slice none 0 0, .slice none 0 0]
  rw [← hW]
  clear hW
  obtain ⟨k0_0, k0_1, k0_2, f0_0, f0_1, f0_2⟩ := box3 A0 (Ext.refl _)
  have z0 := (A0.ext (Ext.refl _)).lt
  obtain ⟨k1_0, k1_1, k1_2, f1_0, f1_1, f1_2⟩ := box3 A1 (Ext.refl _)
  have z1 := (A1.ext (Ext.refl _)).lt
  obtain ⟨k2_0, k2_1, k2_2, f2_0, f2_1, f2_2⟩ := box3 A2 (Ext.refl _)
  have z2 := (A2.ext (Ext.refl _)).lt
  refine (rat_Sign _ _ _ _ _ _ _ _ _ _ (h.ext x0) (g.ext x0)).mono ?_
  rintro e w1 ⟨rfl, hx1⟩
  obtain ⟨k0_0, k0_1, k0_2, f0_0, f0_1, f0_2⟩ := box3 A0 hx1
  have z0 := (A0.ext hx1).lt
  obtain ⟨k1_0, k1_1, k1_2, f1_0, f1_1, f1_2⟩ := box3 A1 hx1
  have z1 := (A1.ext hx1).lt
  obtain ⟨k2_0, k2_1, k2_2, f2_0, f2_1, f2_2⟩ := box3 A2 hx1
  have z2 := (A2.ext hx1).lt
  go_wp2_with fail
  refine (rat_Sign _ _ _ _ _ _ _ _ _ _ ((h'.ext x0).ext hx1) ((g'.ext x0).ext hx1)).mono ?_
  rintro e w2 ⟨rfl, hx2⟩
  have y2 : Ext W w2 := hx1.trans hx2
  obtain ⟨k0_0, k0_1, k0_2, f0_0, f0_1, f0_2⟩ := box3 A0 y2
  have z0 := (A0.ext y2).lt
  obtain ⟨k1_0, k1_1, k1_2, f1_0, f1_1, f1_2⟩ := box3 A1 y2
  have z1 := (A1.ext y2).lt
  obtain ⟨k2_0, k2_1, k2_2, f2_0, f2_1, f2_2⟩ := box3 A2 y2
  have z2 := (A2.ext y2).lt
  rw [hs]
  clear hs
  go_wp2_with fail
  refine (rat_Norm _ _ _ _ _ _ _ _ _ _ ((h.ext x0).ext y2) ((g.ext x0).ext y2) b1 b2).mono ?_
  intro e wz hN
  rw [← Rat.add_zero (mkRat (sgn s n) m), ← H0.out] at hN
  obtain ⟨az, cz, az', cz', rfl, hrz, hfz, hrz', hfz', hxz⟩ := id hN
  obtain ⟨k0_0, k0_1, k0_2, f0_0, f0_1, f0_2⟩ := box3 A0 (y2.trans hxz)
  have z0 := (A0.ext (y2.trans hxz)).lt
  obtain ⟨k1_0, k1_1, k1_2, f1_0, f1_1, f1_2⟩ := box3 A1 (y2.trans hxz)
  have z1 := (A1.ext (y2.trans hxz)).lt
  obtain ⟨k2_0, k2_1, k2_2, f2_0, f2_1, f2_2⟩ := box3 A2 (y2.trans hxz)
  have z2 := (A2.ext (y2.trans hxz)).lt
  go_wp2
  exact bodyPost_ret (by simp [results, Tryz.results136, go_sem, *]) rfl (NewRat.touch (hN.base y2) x0 (Touch.three _ (by omega) (by rw [Z0.out]; omega) _ _ _))


set_option maxHeartbeats 4000000 in
set_option maxRecDepth 100000 in
theorem rat_Add_tt (w : World) (s : Bool) (a b : Option Addr) (k c j d n m : Nat) (h : Raw w a k c n) (g : Raw w b j d m) (s' : Bool) (a' b' : Option Addr) (k' c' j' d' n' m' : Nat) (h' : Raw w a' k' c' n') (g' : Raw w b' j' d' m') (b1 : len n < 100000000) (b2 : len m < 100000000) (b1' : len n' < 100000000) (b2' : len m' < 100000000) (hn0 : ¬ mkRat (sgn s n) m = 0) (hn0' : ¬ mkRat (sgn s' n') m' = 0) (ha : n < 2147483648 ∧ m < 2147483648) (hb : n' < 2147483648 ∧ m' < 2147483648) :
    Calls Tryz.prog 136 #[.agg #[.bool s, .slice a k c, .slice b j d], .agg #[.bool s', .slice a' k' c', .slice b' j' d']] w (NewRat (mkRat (sgn s n) m + mkRat (sgn s' n') m') w) := by
  have hs1 : ((mkRat (sgn s n) m).num.sign == 0) = false := by rw [beq_eq_false_iff_ne]; exact fun h => hn0 (sign_zero_iff.1 h)
  have hs2 : ((mkRat (sgn s' n') m').num.sign == 0) = false := by rw [beq_eq_false_iff_ne]; exact fun h => hn0' (sign_zero_iff.1 h)
  clear hn0 hn0'
  have HA := Lib.hid ha; have HB := Lib.hid hb; clear ha hb
  go_enter Tryz.func136, Tryz.ntmps136
  go_wp2_with fail
  obtain ⟨W, hW, x0, Z0, A0, A1, A2⟩ := boxes3 w 55 [.bool s, .slice a k c, .slice b j d] 55 [.bool s', .slice a' k' c', .slice b' j' d'] 55 [.bool false, .slice none 0 0, .slice none 0 0]
  rw [← hW]
  clear hW
  obtain ⟨k0_0, k0_1, k0_2, f0_0, f0_1, f0_2⟩ := box3 A0 (Ext.refl _)
  have z0 := (A0.ext (Ext.refl _)).lt
  obtain ⟨k1_0, k1_1, k1_2, f1_0, f1_1, f1_2⟩ := box3 A1 (Ext.refl _)
  have z1 := (A1.ext (Ext.refl _)).lt
  obtain ⟨k2_0, k2_1, k2_2, f2_0, f2_1, f2_2⟩ := box3 A2 (Ext.refl _)
  have z2 := (A2.ext (Ext.refl _)).lt
  refine (rat_Sign _ _ _ _ _ _ _ _ _ _ (h.ext x0) (g.ext x0)).mono ?_
  rintro e w1 ⟨rfl, hx1⟩
  obtain ⟨k0_0, k0_1, k0_2, f0_0, f0_1, f0_2⟩ := box3 A0 hx1
  have z0 := (A0.ext hx1).lt
  obtain ⟨k1_0, k1_1, k1_2, f1_0, f1_1, f1_2⟩ := box3 A1 hx1
  have z1 := (A1.ext hx1).lt
  obtain ⟨k2_0, k2_1, k2_2, f2_0, f2_1, f2_2⟩ := box3 A2 hx1
  have z2 := (A2.ext hx1).lt
  go_wp2_with fail
  refine (rat_Sign _ _ _ _ _ _ _ _ _ _ ((h'.ext x0).ext hx1) ((g'.ext x0).ext hx1)).mono ?_
  rintro e w2 ⟨rfl, hx2⟩
  have y2 : Ext W w2 := hx1.trans hx2
  obtain ⟨k0_0, k0_1, k0_2, f0_0, f0_1, f0_2⟩ := box3 A0 y2
  have z0 := (A0.ext y2).lt
  obtain ⟨k1_0, k1_1, k1_2, f1_0, f1_1, f1_2⟩ := box3 A1 y2
  have z1 := (A1.ext y2).lt
  obtain ⟨k2_0, k2_1, k2_2, f2_0, f2_1, f2_2⟩ := box3 A2 y2
  have z2 := (A2.ext y2).lt
  go_wp2_with fail
  refine (rat_small _ _ _ _ _ _ _ _ _ _ ((h.ext x0).ext y2) ((g.ext x0).ext y2) HA.out.1 HA.out.2).mono ?_
  rintro e w3 ⟨x, y, rfl, i1, i2, i3, i4, hxy, hx3⟩
  have HXY := Lib.hid hxy; clear hxy
  have y3 : Ext W w3 := y2.trans hx3
  obtain ⟨k0_0, k0_1, k0_2, f0_0, f0_1, f0_2⟩ := box3 A0 y3
  have z0 := (A0.ext y3).lt
  obtain ⟨k1_0, k1_1, k1_2, f1_0, f1_1, f1_2⟩ := box3 A1 y3
  have z1 := (A1.ext y3).lt
  obtain ⟨k2_0, k2_1, k2_2, f2_0, f2_1, f2_2⟩ := box3 A2 y3
  have z2 := (A2.ext y3).lt
  go_wp2_with fail
  refine (rat_small _ _ _ _ _ _ _ _ _ _ ((h'.ext x0).ext y3) ((g'.ext x0).ext y3) HB.out.1 HB.out.2).mono ?_
  rintro e w4 ⟨x', y', rfl, i1', i2', i3', i4', hxy', hx4⟩
  have HXY' := Lib.hid hxy'; clear hxy'
  have y4 : Ext W w4 := y3.trans hx4
  obtain ⟨k0_0, k0_1, k0_2, f0_0, f0_1, f0_2⟩ := box3 A0 y4
  have z0 := (A0.ext y4).lt
  obtain ⟨k1_0, k1_1, k1_2, f1_0, f1_1, f1_2⟩ := box3 A1 y4
  have z1 := (A1.ext y4).lt
  obtain ⟨k2_0, k2_1, k2_2, f2_0, f2_1, f2_2⟩ := box3 A2 y4
  have z2 := (A2.ext y4).lt
  obtain ⟨m1, m2⟩ := small_mul i1 i2 (by omega : -2147483648 < (y' : Int)) (by omega)
  obtain ⟨m3, m4⟩ := small_mul i1' i2' (by omega : -2147483648 < (y : Int)) (by omega)
  obtain ⟨m5, m6⟩ := small_mul_nat i3 i4 i3' i4'
  have m5' : 0 < (y : Int) * (y' : Int) := by rw [← Int.natCast_mul]; omega
  have m6' : (y : Int) * (y' : Int) ≤ 4611686018427387904 := by rw [← Int.natCast_mul]; omega
  have o1 : x * (y' : Int) + x' * (y : Int) < 9223372036854775808 := by
    by_cases hh : x < 0
    · have := Int.mul_nonpos_of_nonpos_of_nonneg (Int.le_of_lt hh) (by omega : (0 : Int) ≤ (y' : Int)); omega
    · have : x * (y' : Int) ≤ 2147483647 * 2147483647 := Int.mul_le_mul (by omega) (by omega) (by omega) (by omega)
      omega
  have o2 : -9223372036854775808 < x * (y' : Int) + x' * (y : Int) := by
    by_cases hh : x < 0
    · have : (-x) * (y' : Int) ≤ 2147483647 * 2147483647 := Int.mul_le_mul (by omega) (by omega) (by omega) (by omega)
      rw [Int.neg_mul] at this
      omega
    · have := Int.mul_nonneg (by omega : (0 : Int) ≤ x) (by omega : (0 : Int) ≤ (y' : Int)); omega
  go_wp2_with fail
  rw [← Int.natCast_mul]
  refine (rat_quotient _ _ _ (by omega) (by omega) m5 (by omega)).mono ?_
  intro e wz hN
  rw [mkRat_add _ _ _ _ i3 i3', HXY.out, HXY'.out] at hN
  obtain ⟨az, cz, az', cz', rfl, hrz, hfz, hrz', hfz', hxz⟩ := id hN
  obtain ⟨k0_0, k0_1, k0_2, f0_0, f0_1, f0_2⟩ := box3 A0 (y4.trans hxz)
  have z0 := (A0.ext (y4.trans hxz)).lt
  obtain ⟨k1_0, k1_1, k1_2, f1_0, f1_1, f1_2⟩ := box3 A1 (y4.trans hxz)
  have z1 := (A1.ext (y4.trans hxz)).lt
  obtain ⟨k2_0, k2_1, k2_2, f2_0, f2_1, f2_2⟩ := box3 A2 (y4.trans hxz)
  have z2 := (A2.ext (y4.trans hxz)).lt
  go_wp2
  exact bodyPost_ret (by simp [results, Tryz.results136, go_sem, *]) rfl (NewRat.touch (hN.base y4) x0 (Touch.three _ (by omega) (by rw [Z0.out]; omega) _ _ _))

set_option maxHeartbeats 4000000 in
set_option maxRecDepth 100000 in
theorem rat_Add_tf (w : World) (s : Bool) (a b : Option Addr) (k c j d n m : Nat) (h : Raw w a k c n) (g : Raw w b j d m) (s' : Bool) (a' b' : Option Addr) (k' c' j' d' n' m' : Nat) (h' : Raw w a' k' c' n') (g' : Raw w b' j' d' m') (b1 : len n < 100000000) (b2 : len m < 100000000) (b1' : len n' < 100000000) (b2' : len m' < 100000000) (hn0 : ¬ mkRat (sgn s n) m = 0) (hn0' : ¬ mkRat (sgn s' n') m' = 0) (ha : n < 2147483648 ∧ m < 2147483648) (hb : ¬ (n' < 2147483648 ∧ m' < 2147483648)) :
    Calls Tryz.prog 136 #[.agg #[.bool s, .slice a k c, .slice b j d], .agg #[.bool s', .slice a' k' c', .slice b' j' d']] w (NewRat (mkRat (sgn s n) m + mkRat (sgn s' n') m') w) := by
  have hs1 : ((mkRat (sgn s n) m).num.sign == 0) = false := by rw [beq_eq_false_iff_ne]; exact fun h => hn0 (sign_zero_iff.1 h)
  have hs2 : ((mkRat (sgn s' n') m').num.sign == 0) = false := by rw [beq_eq_false_iff_ne]; exact fun h => hn0' (sign_zero_iff.1 h)
  clear hn0 hn0'
  have HA := Lib.hid ha; have HB := Lib.hid hb; clear ha hb
  go_enter Tryz.func136, Tryz.ntmps136
  go_wp2_with fail
  obtain ⟨W, hW, x0, Z0, A0, A1, A2⟩ := boxes3 w 55 [.bool s, .slice a k c, .slice b j d] 55 [.bool s', .slice a' k' c', .slice b' j' d'] 55 [.bool false, .slice none 0 0, .slice none 0 0]
  rw [← hW]
  clear hW
  obtain ⟨k0_0, k0_1, k0_2, f0_0, f0_1, f0_2⟩ := box3 A0 (Ext.refl _)
  have z0 := (A0.ext (Ext.refl _)).lt
  obtain ⟨k1_0, k1_1, k1_2, f1_0, f1_1, f1_2⟩ := box3 A1 (Ext.refl _)
  have z1 := (A1.ext (Ext.refl _)).lt
  obtain ⟨k2_0, k2_1, k2_2, f2_0, f2_1, f2_2⟩ := box3 A2 (Ext.refl _)
  have z2 := (A2.ext (Ext.refl _)).lt
  refine (rat_Sign _ _ _ _ _ _ _ _ _ _ (h.ext x0) (g.ext x0)).mono ?_
  rintro e w1 ⟨rfl, hx1⟩
  obtain ⟨k0_0, k0_1, k0_2, f0_0, f0_1, f0_2⟩ := box3 A0 hx1
  have z0 := (A0.ext hx1).lt
  obtain ⟨k1_0, k1_1, k1_2, f1_0, f1_1, f1_2⟩ := box3 A1 hx1
  have z1 := (A1.ext hx1).lt
  obtain ⟨k2_0, k2_1, k2_2, f2_0, f2_1, f2_2⟩ := box3 A2 hx1
  have z2 := (A2.ext hx1).lt
  go_wp2_with fail
  refine (rat_Sign _ _ _ _ _ _ _ _ _ _ ((h'.ext x0).ext hx1) ((g'.ext x0).ext hx1)).mono ?_
  rintro e w2 ⟨rfl, hx2⟩
  have y2 : Ext W w2 := hx1.trans hx2
  obtain ⟨k0_0, k0_1, k0_2, f0_0, f0_1, f0_2⟩ := box3 A0 y2
  have z0 := (A0.ext y2).lt
  obtain ⟨k1_0, k1_1, k1_2, f1_0, f1_1, f1_2⟩ := box3 A1 y2
  have z1 := (A1.ext y2).lt
  obtain ⟨k2_0, k2_1, k2_2, f2_0, f2_1, f2_2⟩ := box3 A2 y2
  have z2 := (A2.ext y2).lt
  go_wp2_with fail
  refine (rat_small _ _ _ _ _ _ _ _ _ _ ((h.ext x0).ext y2) ((g.ext x0).ext y2) HA.out.1 HA.out.2).mono ?_
  rintro e w3 ⟨x, y, rfl, i1, i2, i3, i4, hxy, hx3⟩
  have HXY := Lib.hid hxy; clear hxy
  have y3 : Ext W w3 := y2.trans hx3
  obtain ⟨k0_0, k0_1, k0_2, f0_0, f0_1, f0_2⟩ := box3 A0 y3
  have z0 := (A0.ext y3).lt
  obtain ⟨k1_0, k1_1, k1_2, f1_0, f1_1, f1_2⟩ := box3 A1 y3
  have z1 := (A1.ext y3).lt
  obtain ⟨k2_0, k2_1, k2_2, f2_0, f2_1, f2_2⟩ := box3 A2 y3
  have z2 := (A2.ext y3).lt
  go_wp2_with fail
  refine (rat_small_no _ _ _ _ _ _ _ _ _ _ ((h'.ext x0).ext y3) ((g'.ext x0).ext y3) HB.out).mono ?_
  rintro e w4 ⟨rfl, hx4⟩
  have y4 : Ext W w4 := y3.trans hx4
  obtain ⟨k0_0, k0_1, k0_2, f0_0, f0_1, f0_2⟩ := box3 A0 y4
  have z0 := (A0.ext y4).lt
  obtain ⟨k1_0, k1_1, k1_2, f1_0, f1_1, f1_2⟩ := box3 A1 y4
  have z1 := (A1.ext y4).lt
  obtain ⟨k2_0, k2_1, k2_2, f2_0, f2_1, f2_2⟩ := box3 A2 y4
  have z2 := (A2.ext y4).lt
  go_wp2_with fail
  refine (rat_parts _ _ _ _ _ _ _ _ _ _ ((h.ext x0).ext y4) ((g.ext x0).ext y4)).mono ?_
  rintro e w5 ⟨s1, a1, k1, c1, n1, e1, j1, d1, m1, rfl, h1, g1, hm1, hv, l1, l2, hx5⟩
  have HV := Lib.hid hv; clear hv
  have y5 : Ext W w5 := y4.trans hx5
  obtain ⟨k0_0, k0_1, k0_2, f0_0, f0_1, f0_2⟩ := box3 A0 y5
  have z0 := (A0.ext y5).lt
  obtain ⟨k1_0, k1_1, k1_2, f1_0, f1_1, f1_2⟩ := box3 A1 y5
  have z1 := (A1.ext y5).lt
  obtain ⟨k2_0, k2_1, k2_2, f2_0, f2_1, f2_2⟩ := box3 A2 y5
  have z2 := (A2.ext y5).lt
  have P5 := Arr.alloc w5 53 [.bool s1, .slice a1 k1 c1]
  have y5' := y5.alloc (.cells #[.bool s1, .slice a1 k1 c1] 53)
  go_wp2_with fail
  refine (rat_parts _ _ _ _ _ _ _ _ _ _ ((h'.ext x0).ext y5') ((g'.ext x0).ext y5')).mono ?_
  rintro e w6 ⟨s2, a2, k2, c2, n2, e2, j2, d2, m2, rfl, h2, g2, hm2, hv2, l3, l4, hx6⟩
  have HV2 := Lib.hid hv2; clear hv2
  have y6 : Ext W w6 := y5'.trans hx6
  obtain ⟨k0_0, k0_1, k0_2, f0_0, f0_1, f0_2⟩ := box3 A0 y6
  have z0 := (A0.ext y6).lt
  obtain ⟨k1_0, k1_1, k1_2, f1_0, f1_1, f1_2⟩ := box3 A1 y6
  have z1 := (A1.ext y6).lt
  obtain ⟨k2_0, k2_1, k2_2, f2_0, f2_1, f2_2⟩ := box3 A2 y6
  have z2 := (A2.ext y6).lt
  obtain ⟨p0, p1, p2, p3⟩ := box2 P5 hx6
  have pz := (P5.ext hx6).lt
  have yV : Ext w6 (w6.alloc (.cells #[.bool s2, .slice a2 k2 c2] 53)) := (Ext.refl _).alloc _
  have PV := (P5.ext hx6).ext yV
  have QV := Arr.alloc w6 53 [.bool s2, .slice a2 k2 c2]
  have H1 := ((h1.ext ((Ext.refl w5).alloc _)).ext hx6).ext yV
  have G1 := ((g1.ext ((Ext.refl w5).alloc _)).ext hx6).ext yV
  have H2 := h2.ext yV
  have G2 := g2.ext yV
  have yW := y6.trans yV
  go_wp2_with fail
  refine (nat_Compare _ _ _ _ _ _ _ _ _ G1 G2).mono ?_
  rintro e w7 ⟨rfl, hq7⟩
  have y7 : Ext W w7 := yW.trans hq7.ext
  obtain ⟨k0_0, k0_1, k0_2, f0_0, f0_1, f0_2⟩ := box3 A0 y7
  have z0 := (A0.ext y7).lt
  obtain ⟨k1_0, k1_1, k1_2, f1_0, f1_1, f1_2⟩ := box3 A1 y7
  have z1 := (A1.ext y7).lt
  obtain ⟨k2_0, k2_1, k2_2, f2_0, f2_1, f2_2⟩ := box3 A2 y7
  have z2 := (A2.ext y7).lt
  have P7 := PV.ext hq7.ext
  have Q7 := QV.ext hq7.ext
  obtain ⟨p0, p1, p2, p3⟩ := box2 P7 (Ext.refl _)
  obtain ⟨q0, q1, q2, q3⟩ := box2 Q7 (Ext.refl _)
  have pz := P7.lt
  have qz := Q7.lt
  have H1 := H1.ext hq7.ext
  have H2 := H2.ext hq7.ext
  have G1 := G1.ext hq7.ext
  have G2 := G2.ext hq7.ext
  by_cases heq : m1 = m2
  · subst heq
    have hcm : cmpN m1 m1 = 0 := by unfold cmpN; simp
    rw [hcm]; clear hcm
    go_wp2_with fail
    refine (int_Add _ _ _ _ _ _ _ _ _ _ _ H1 H2 (by omega) (by omega)).mono ?_
    rintro e w8 ⟨a8, c8, rfl, hr8, hf8, hx8⟩
    have y8 : Ext W w8 := y7.trans hx8
    obtain ⟨k0_0, k0_1, k0_2, f0_0, f0_1, f0_2⟩ := box3 A0 y8
    have z0 := (A0.ext y8).lt
    obtain ⟨k1_0, k1_1, k1_2, f1_0, f1_1, f1_2⟩ := box3 A1 y8
    have z1 := (A1.ext y8).lt
    obtain ⟨k2_0, k2_1, k2_2, f2_0, f2_1, f2_2⟩ := box3 A2 y8
    have z2 := (A2.ext y8).lt
    have bl := len_intAdd (sgn s1 n1) (sgn s2 n2)
    rw [sgn_natAbs, sgn_natAbs] at bl
    go_wp2_with fail
    refine (rat_lowest _ _ _ _ _ _ _ _ _ _ hr8 (G1.ext hx8) hm1 (by omega) (by omega)).mono ?_
    intro e wz hN
    rw [sgn_num, mkRat_add_same _ _ _ hm1, HV.out, HV2.out] at hN
    obtain ⟨az, cz, az', cz', rfl, hrz, hfz, hrz', hfz', hxz⟩ := id hN
    obtain ⟨k0_0, k0_1, k0_2, f0_0, f0_1, f0_2⟩ := box3 A0 (y8.trans hxz)
    have z0 := (A0.ext (y8.trans hxz)).lt
    obtain ⟨k1_0, k1_1, k1_2, f1_0, f1_1, f1_2⟩ := box3 A1 (y8.trans hxz)
    have z1 := (A1.ext (y8.trans hxz)).lt
    obtain ⟨k2_0, k2_1, k2_2, f2_0, f2_1, f2_2⟩ := box3 A2 (y8.trans hxz)
    have z2 := (A2.ext (y8.trans hxz)).lt
    go_wp2
    exact bodyPost_ret (by simp [results, Tryz.results136, go_sem, *]) rfl (NewRat.touch (hN.base y8) x0 (Touch.three _ (by omega) (by rw [Z0.out]; omega) _ _ _))
  · have hcm : (cmpN m1 m2 == 0) = false := by rw [beq_eq_false_iff_ne]; rcases cmpN_cases m1 m2 with h | h | h <;> omega
    go_wp2
    have bl1 : len (sgn s1 n1 * sgn false m2).natAbs < 1000000000 := by rw [Int.natAbs_mul, sgn_natAbs, sgn_natAbs]; have := len_mul n1 m2; omega
    have bl2 : len (sgn s2 n2 * sgn false m1).natAbs < 1000000000 := by rw [Int.natAbs_mul, sgn_natAbs, sgn_natAbs]; have := len_mul n2 m1; omega
    have bl3 := len_intAdd (sgn s1 n1 * sgn false m2) (sgn s2 n2 * sgn false m1)
    rw [Int.natAbs_mul, Int.natAbs_mul, sgn_natAbs, sgn_natAbs, sgn_natAbs, sgn_natAbs] at bl3
    have bl4 := len_mul n1 m2
    have bl5 := len_mul n2 m1
    have bl6 := len_mul m1 m2
    have tok2 : True := trivial
    have sW : w.heap.size + 3 ≤ w7.heap.size := by have := y7.size; rw [Z0.out] at this; exact this
    go_cut [15] (fun s15 wx => ∃ (bb : Nat) (az : Option Addr) (cz : Nat), s15 = .pointer (some ⟨bb, 0, none⟩) ∧ w.heap.size + 3 ≤ bb ∧ Hid (Arr wx bb 53 [.bool (decide (sgn s1 n1 * sgn false m2 + sgn s2 n2 * sgn false m1 < 0)), .slice az (len (sgn s1 n1 * sgn false m2 + sgn s2 n2 * sgn false m1).natAbs) cz]) ∧ Raw wx az (len (sgn s1 n1 * sgn false m2 + sgn s2 n2 * sgn false m1).natAbs) cz (sgn s1 n1 * sgn false m2 + sgn s2 n2 * sgn false m1).natAbs ∧ Ext w7 wx)
    case first =>
      go_region_held3 (fun w' => w'.cell? ⟨w5.heap.size, 0, none⟩ = some (.bool s1) ∧ w'.cell? ⟨w5.heap.size, 1, none⟩ = some (.slice a1 k1 c1) ∧ w'.cell? ⟨w6.heap.size, 0, none⟩ = some (.bool s2) ∧ w'.cell? ⟨w6.heap.size, 1, none⟩ = some (.slice a2 k2 c2)) (first | exact ⟨p0, p1, q0, q1⟩ | (simp [go_sem, p0, p1, q0, q1, pz, qz]; done) | (simp [go_sem, p0, p1, q0, q1, pz, qz]; omega)) (first
        | (go_at_call 134; have _t := tok2; refine (int_Mul _ _ _ _ _ _ _ _ _ _ _ (H1.ext (by repeat (first | exact Ext.refl _ | exact v10 | exact v9 | exact v8 | refine Ext.trans ?_ hx10 | refine Ext.trans ?_ hx9 | refine Ext.trans ?_ hx8 | refine Ext.drew ?_ | refine Ext.alloc ?_ _ | refine Ext.setCell ?_ (by simp; omega) _))) (G2.ext (by repeat (first | exact Ext.refl _ | exact v10 | exact v9 | exact v8 | refine Ext.trans ?_ hx10 | refine Ext.trans ?_ hx9 | refine Ext.trans ?_ hx8 | refine Ext.drew ?_ | refine Ext.alloc ?_ _ | refine Ext.setCell ?_ (by simp; omega) _))) (by omega) (by omega)).mono ?_; rintro e w8 ⟨a8, c8, rfl, hr8, hf8, hx8⟩; clear tok2 _t; have v8 : Ext w7 w8 := (by repeat (first | exact Ext.refl _ | exact v10 | exact v9 | exact v8 | refine Ext.trans ?_ hx10 | refine Ext.trans ?_ hx9 | refine Ext.trans ?_ hx8 | refine Ext.drew ?_ | refine Ext.alloc ?_ _ | refine Ext.setCell ?_ (by simp; omega) _)); have z8 := v8.size; obtain ⟨p0, p1, p2, p3⟩ := box2 P7 v8; obtain ⟨q0, q1, q2, q3⟩ := box2 Q7 v8; have pz := (P7.ext v8).lt; have qz := (Q7.ext v8).lt; (first | (have RB : Arr w8 w7.heap.size 53 [.bool false, .slice none 0 0] := (Arr.alloc w7.drew 53 [.bool false, .slice none 0 0]).ext hx8; obtain ⟨r0, r1, r2, r3⟩ := box2 RB (Ext.refl _); have rz := RB.lt) | skip))
        | (go_at_call 134; refine (int_Mul _ _ _ _ _ _ _ _ _ _ _ (H2.ext (by repeat (first | exact Ext.refl _ | exact v10 | exact v9 | exact v8 | refine Ext.trans ?_ hx10 | refine Ext.trans ?_ hx9 | refine Ext.trans ?_ hx8 | refine Ext.drew ?_ | refine Ext.alloc ?_ _ | refine Ext.setCell ?_ (by simp; omega) _))) (G1.ext (by repeat (first | exact Ext.refl _ | exact v10 | exact v9 | exact v8 | refine Ext.trans ?_ hx10 | refine Ext.trans ?_ hx9 | refine Ext.trans ?_ hx8 | refine Ext.drew ?_ | refine Ext.alloc ?_ _ | refine Ext.setCell ?_ (by simp; omega) _))) (by omega) (by omega)).mono ?_; rintro e w9 ⟨a9, c9, rfl, hr9, hf9, hx9⟩; have v9 : Ext w7 w9 := (by repeat (first | exact Ext.refl _ | exact v10 | exact v9 | exact v8 | refine Ext.trans ?_ hx10 | refine Ext.trans ?_ hx9 | refine Ext.trans ?_ hx8 | refine Ext.drew ?_ | refine Ext.alloc ?_ _ | refine Ext.setCell ?_ (by simp; omega) _)); have z9 := v9.size; obtain ⟨p0, p1, p2, p3⟩ := box2 P7 v9; obtain ⟨q0, q1, q2, q3⟩ := box2 Q7 v9; have pz := (P7.ext v9).lt; have qz := (Q7.ext v9).lt; (first | (have RB := RB.ext hx9; obtain ⟨r0, r1, r2, r3⟩ := box2 RB (Ext.refl _); have rz := RB.lt) | (have RB := (Arr.alloc w8 53 [.bool false, .slice none 0 0]).ext hx9; obtain ⟨r0, r1, r2, r3⟩ := box2 RB (Ext.refl _); have rz := RB.lt) | skip))
        | (go_at_call 208; refine (int_Add _ _ _ _ _ _ _ _ _ _ _ (hr8.ext (by repeat (first | exact Ext.refl _ | exact v10 | exact v9 | exact v8 | refine Ext.trans ?_ hx10 | refine Ext.trans ?_ hx9 | refine Ext.trans ?_ hx8 | refine Ext.drew ?_ | refine Ext.alloc ?_ _ | refine Ext.setCell ?_ (by simp; omega) _))) (hr9.ext (by repeat (first | exact Ext.refl _ | exact v10 | exact v9 | exact v8 | refine Ext.trans ?_ hx10 | refine Ext.trans ?_ hx9 | refine Ext.trans ?_ hx8 | refine Ext.drew ?_ | refine Ext.alloc ?_ _ | refine Ext.setCell ?_ (by simp; omega) _))) bl1 bl2).mono ?_; rintro e w10 ⟨a10, c10, rfl, hr10, hf10, hx10⟩; have v10 : Ext w7 w10 := (by repeat (first | exact Ext.refl _ | exact v10 | exact v9 | exact v8 | refine Ext.trans ?_ hx10 | refine Ext.trans ?_ hx9 | refine Ext.trans ?_ hx8 | refine Ext.drew ?_ | refine Ext.alloc ?_ _ | refine Ext.setCell ?_ (by simp; omega) _)); have z10 := v10.size; obtain ⟨p0, p1, p2, p3⟩ := box2 P7 v10; obtain ⟨q0, q1, q2, q3⟩ := box2 Q7 v10; have pz := (P7.ext v10).lt; have qz := (Q7.ext v10).lt; (first | (have RB := RB.ext hx10; obtain ⟨r0, r1, r2, r3⟩ := box2 RB (Ext.refl _); have rz := RB.lt) | (have RB := (Arr.alloc w9 53 [.bool false, .slice none 0 0]).ext hx10; obtain ⟨r0, r1, r2, r3⟩ := box2 RB (Ext.refl _); have rz := RB.lt) | skip)))
      all_goals go_wp2_with fail
      all_goals go_meet
      all_goals simp only [sgn_num] at hr10 ⊢
      all_goals first
        | exact ⟨_, a10, c10, rfl, by omega, Arr.alloc _ _ _, hr10.ext ((Ext.refl _).alloc _), (by repeat (first | exact Ext.refl _ | exact v10 | exact v9 | exact v8 | refine Ext.trans ?_ hx10 | refine Ext.trans ?_ hx9 | refine Ext.trans ?_ hx8 | refine Ext.drew ?_ | refine Ext.alloc ?_ _ | refine Ext.setCell ?_ (by simp; omega) _))⟩
        | exact ⟨_, a10, c10, rfl, by omega, (RB.set 0 _).set 1 _, Raw.setCell (Raw.setCell hr10 _ _ (hf10.ne (by first | (simp; done) | (simp; omega) | omega))) _ _ (hf10.ne (by first | (simp; done) | (simp; omega) | omega)), Ext.set2 v10 (by omega) _ _⟩
    case rest =>
      obtain ⟨bb, az, cz, rfl, hb3, hA, hR, hx8⟩ := hcut
      have y8 : Ext W wc := y7.trans hx8
      obtain ⟨k0_0, k0_1, k0_2, f0_0, f0_1, f0_2⟩ := box3 A0 y8
      have z0 := (A0.ext y8).lt
      obtain ⟨k1_0, k1_1, k1_2, f1_0, f1_1, f1_2⟩ := box3 A1 y8
      have z1 := (A1.ext y8).lt
      obtain ⟨k2_0, k2_1, k2_2, f2_0, f2_1, f2_2⟩ := box3 A2 y8
      have z2 := (A2.ext y8).lt
      have A8 := hA.out
      obtain ⟨r0, r1, r2, r3⟩ := box2 A8 (Ext.refl _)
      have nb1 : ¬ (w.heap.size + 1 + 1 = bb) := by omega
      have nb2 : ¬ (bb = w.heap.size + 1 + 1) := by omega
      have nb3 : ¬ (w.heap.size + 2 = bb) := by omega
      have nb4 : ¬ (bb = w.heap.size + 2) := by omega
      have G1 := G1.ext hx8
      have G2 := G2.ext hx8
      go_wp2
      go_region_held3 (fun w' => w'.cell? ⟨bb, 0, none⟩ = some (.bool (decide (sgn s1 n1 * sgn false m2 + sgn s2 n2 * sgn false m1 < 0))) ∧ w'.cell? ⟨bb, 1, none⟩ = some (.slice az (len (sgn s1 n1 * sgn false m2 + sgn s2 n2 * sgn false m1).natAbs) cz)) (first | exact ⟨r0, r1⟩ | (simp [go_sem, r0, r1, nb1, nb2, nb3, nb4]; done)) (first
        | (go_at_call 157; refine (nat_Mul _ _ _ _ _ _ _ _ _ (G1.ext (by exact (Ext.refl _).drew)) (G2.ext (by exact (Ext.refl _).drew)) (by omega) (by omega)).mono ?_; rintro e w11 ⟨a11, c11, rfl, hr11, hf11, hx11⟩; obtain ⟨r0, r1, r2, r3⟩ := box2 A8 ((Ext.refl wc).drew.trans hx11); obtain ⟨k0_0, k0_1, k0_2, f0_0, f0_1, f0_2⟩ := box3 A0 ((y8.drew).trans hx11); have z0 := (A0.ext ((y8.drew).trans hx11)).lt; obtain ⟨k1_0, k1_1, k1_2, f1_0, f1_1, f1_2⟩ := box3 A1 ((y8.drew).trans hx11); have z1 := (A1.ext ((y8.drew).trans hx11)).lt; obtain ⟨k2_0, k2_1, k2_2, f2_0, f2_1, f2_2⟩ := box3 A2 ((y8.drew).trans hx11); have z2 := (A2.ext ((y8.drew).trans hx11)).lt)
        | (go_at_call 156; refine (rat_lowest _ _ _ _ _ _ _ _ _ _ ((hR.ext (by exact (Ext.refl _).drew)).ext hx11) hr11 (Nat.mul_pos hm1 hm2) (by omega) (by omega)).mono ?_; intro e wz hN; rw [sgn_num, sgn_false, sgn_false, mkRat_add _ _ _ _ hm1 hm2, HV.out, HV2.out] at hN; obtain ⟨au, cu, au', cu', rfl, hrz, hfz, hrz', hfz', hxz⟩ := id hN; obtain ⟨r0, r1, r2, r3⟩ := box2 A8 (((Ext.refl wc).drew.trans hx11).trans hxz); obtain ⟨k0_0, k0_1, k0_2, f0_0, f0_1, f0_2⟩ := box3 A0 (((y8.drew).trans hx11).trans hxz); have z0 := (A0.ext (((y8.drew).trans hx11).trans hxz)).lt; obtain ⟨k1_0, k1_1, k1_2, f1_0, f1_1, f1_2⟩ := box3 A1 (((y8.drew).trans hx11).trans hxz); have z1 := (A1.ext (((y8.drew).trans hx11).trans hxz)).lt; obtain ⟨k2_0, k2_1, k2_2, f2_0, f2_1, f2_2⟩ := box3 A2 (((y8.drew).trans hx11).trans hxz); have z2 := (A2.ext (((y8.drew).trans hx11).trans hxz)).lt))
      go_wp2
      exact bodyPost_ret (by simp [results, Tryz.results136, go_sem, *]) rfl (NewRat.touch (hN.base ((y8.drew).trans hx11)) x0 (Touch.three _ (by omega) (by rw [Z0.out]; omega) _ _ _))

set_option maxHeartbeats 4000000 in
set_option maxRecDepth 100000 in
theorem rat_Add_ft (w : World) (s : Bool) (a b : Option Addr) (k c j d n m : Nat) (h : Raw w a k c n) (g : Raw w b j d m) (s' : Bool) (a' b' : Option Addr) (k' c' j' d' n' m' : Nat) (h' : Raw w a' k' c' n') (g' : Raw w b' j' d' m') (b1 : len n < 100000000) (b2 : len m < 100000000) (b1' : len n' < 100000000) (b2' : len m' < 100000000) (hn0 : ¬ mkRat (sgn s n) m = 0) (hn0' : ¬ mkRat (sgn s' n') m' = 0) (ha : ¬ (n < 2147483648 ∧ m < 2147483648)) (hb : n' < 2147483648 ∧ m' < 2147483648) :
    Calls Tryz.prog 136 #[.agg #[.bool s, .slice a k c, .slice b j d], .agg #[.bool s', .slice a' k' c', .slice b' j' d']] w (NewRat (mkRat (sgn s n) m + mkRat (sgn s' n') m') w) := by
  have hs1 : ((mkRat (sgn s n) m).num.sign == 0) = false := by rw [beq_eq_false_iff_ne]; exact fun h => hn0 (sign_zero_iff.1 h)
  have hs2 : ((mkRat (sgn s' n') m').num.sign == 0) = false := by rw [beq_eq_false_iff_ne]; exact fun h => hn0' (sign_zero_iff.1 h)
  clear hn0 hn0'
  have HA := Lib.hid ha; have HB := Lib.hid hb; clear ha hb
  go_enter Tryz.func136, Tryz.ntmps136
  go_wp2_with fail
  obtain ⟨W, hW, x0, Z0, A0, A1, A2⟩ := boxes3 w 55 [.bool s, .slice a k c, .slice b j d] 55 [.bool s', .slice a' k' c', .slice b' j' d'] 55 [.bool false, .slice none 0 0, .slice none 0 0]
  rw [← hW]
  clear hW
  obtain ⟨k0_0, k0_1, k0_2, f0_0, f0_1, f0_2⟩ := box3 A0 (Ext.refl _)
  have z0 := (A0.ext (Ext.refl _)).lt
  obtain ⟨k1_0, k1_1, k1_2, f1_0, f1_1, f1_2⟩ := box3 A1 (Ext.refl _)
  have z1 := (A1.ext (Ext.refl _)).lt
  obtain ⟨k2_0, k2_1, k2_2, f2_0, f2_1, f2_2⟩ := box3 A2 (Ext.refl _)
  have z2 := (A2.ext (Ext.refl _)).lt
  refine (rat_Sign _ _ _ _ _ _ _ _ _ _ (h.ext x0) (g.ext x0)).mono ?_
  rintro e w1 ⟨rfl, hx1⟩
  obtain ⟨k0_0, k0_1, k0_2, f0_0, f0_1, f0_2⟩ := box3 A0 hx1
  have z0 := (A0.ext hx1).lt
  obtain ⟨k1_0, k1_1, k1_2, f1_0, f1_1, f1_2⟩ := box3 A1 hx1
  have z1 := (A1.ext hx1).lt
  obtain ⟨k2_0, k2_1, k2_2, f2_0, f2_1, f2_2⟩ := box3 A2 hx1
  have z2 := (A2.ext hx1).lt
  go_wp2_with fail
  refine (rat_Sign _ _ _ _ _ _ _ _ _ _ ((h'.ext x0).ext hx1) ((g'.ext x0).ext hx1)).mono ?_
  rintro e w2 ⟨rfl, hx2⟩
  have y2 : Ext W w2 := hx1.trans hx2
  obtain ⟨k0_0, k0_1, k0_2, f0_0, f0_1, f0_2⟩ := box3 A0 y2
  have z0 := (A0.ext y2).lt
  obtain ⟨k1_0, k1_1, k1_2, f1_0, f1_1, f1_2⟩ := box3 A1 y2
  have z1 := (A1.ext y2).lt
  obtain ⟨k2_0, k2_1, k2_2, f2_0, f2_1, f2_2⟩ := box3 A2 y2
  have z2 := (A2.ext y2).lt
  go_wp2_with fail
  refine (rat_small_no _ _ _ _ _ _ _ _ _ _ ((h.ext x0).ext y2) ((g.ext x0).ext y2) HA.out).mono ?_
  rintro e w3 ⟨rfl, hx3⟩
  have y3 : Ext W w3 := y2.trans hx3
  obtain ⟨k0_0, k0_1, k0_2, f0_0, f0_1, f0_2⟩ := box3 A0 y3
  have z0 := (A0.ext y3).lt
  obtain ⟨k1_0, k1_1, k1_2, f1_0, f1_1, f1_2⟩ := box3 A1 y3
  have z1 := (A1.ext y3).lt
  obtain ⟨k2_0, k2_1, k2_2, f2_0, f2_1, f2_2⟩ := box3 A2 y3
  have z2 := (A2.ext y3).lt
  go_wp2_with fail
  refine (rat_small _ _ _ _ _ _ _ _ _ _ ((h'.ext x0).ext y3) ((g'.ext x0).ext y3) HB.out.1 HB.out.2).mono ?_
  rintro e w4 ⟨x', y', rfl, i1', i2', i3', i4', hxy', hx4⟩
  have HXY' := Lib.hid hxy'; clear hxy'
  have y4 : Ext W w4 := y3.trans hx4
  obtain ⟨k0_0, k0_1, k0_2, f0_0, f0_1, f0_2⟩ := box3 A0 y4
  have z0 := (A0.ext y4).lt
  obtain ⟨k1_0, k1_1, k1_2, f1_0, f1_1, f1_2⟩ := box3 A1 y4
  have z1 := (A1.ext y4).lt
  obtain ⟨k2_0, k2_1, k2_2, f2_0, f2_1, f2_2⟩ := box3 A2 y4
  have z2 := (A2.ext y4).lt
  go_wp2_with fail
  refine (rat_parts _ _ _ _ _ _ _ _ _ _ ((h.ext x0).ext y4) ((g.ext x0).ext y4)).mono ?_
  rintro e w5 ⟨s1, a1, k1, c1, n1, e1, j1, d1, m1, rfl, h1, g1, hm1, hv, l1, l2, hx5⟩
  have HV := Lib.hid hv; clear hv
  have y5 : Ext W w5 := y4.trans hx5
  obtain ⟨k0_0, k0_1, k0_2, f0_0, f0_1, f0_2⟩ := box3 A0 y5
  have z0 := (A0.ext y5).lt
  obtain ⟨k1_0, k1_1, k1_2, f1_0, f1_1, f1_2⟩ := box3 A1 y5
  have z1 := (A1.ext y5).lt
  obtain ⟨k2_0, k2_1, k2_2, f2_0, f2_1, f2_2⟩ := box3 A2 y5
  have z2 := (A2.ext y5).lt
  have P5 := Arr.alloc w5 53 [.bool s1, .slice a1 k1 c1]
  have y5' := y5.alloc (.cells #[.bool s1, .slice a1 k1 c1] 53)
  go_wp2_with fail
  refine (rat_parts _ _ _ _ _ _ _ _ _ _ ((h'.ext x0).ext y5') ((g'.ext x0).ext y5')).mono ?_
  rintro e w6 ⟨s2, a2, k2, c2, n2, e2, j2, d2, m2, rfl, h2, g2, hm2, hv2, l3, l4, hx6⟩
  have HV2 := Lib.hid hv2; clear hv2
  have y6 : Ext W w6 := y5'.trans hx6
  obtain ⟨k0_0, k0_1, k0_2, f0_0, f0_1, f0_2⟩ := box3 A0 y6
  have z0 := (A0.ext y6).lt
  obtain ⟨k1_0, k1_1, k1_2, f1_0, f1_1, f1_2⟩ := box3 A1 y6
  have z1 := (A1.ext y6).lt
  obtain ⟨k2_0, k2_1, k2_2, f2_0, f2_1, f2_2⟩ := box3 A2 y6
  have z2 := (A2.ext y6).lt
  obtain ⟨p0, p1, p2, p3⟩ := box2 P5 hx6
  have pz := (P5.ext hx6).lt
  have yV : Ext w6 (w6.alloc (.cells #[.bool s2, .slice a2 k2 c2] 53)) := (Ext.refl _).alloc _
  have PV := (P5.ext hx6).ext yV
  have QV := Arr.alloc w6 53 [.bool s2, .slice a2 k2 c2]
  have H1 := ((h1.ext ((Ext.refl w5).alloc _)).ext hx6).ext yV
  have G1 := ((g1.ext ((Ext.refl w5).alloc _)).ext hx6).ext yV
  have H2 := h2.ext yV
  have G2 := g2.ext yV
  have yW := y6.trans yV
  go_wp2_with fail
  refine (nat_Compare _ _ _ _ _ _ _ _ _ G1 G2).mono ?_
  rintro e w7 ⟨rfl, hq7⟩
  have y7 : Ext W w7 := yW.trans hq7.ext
  obtain ⟨k0_0, k0_1, k0_2, f0_0, f0_1, f0_2⟩ := box3 A0 y7
  have z0 := (A0.ext y7).lt
  obtain ⟨k1_0, k1_1, k1_2, f1_0, f1_1, f1_2⟩ := box3 A1 y7
  have z1 := (A1.ext y7).lt
  obtain ⟨k2_0, k2_1, k2_2, f2_0, f2_1, f2_2⟩ := box3 A2 y7
  have z2 := (A2.ext y7).lt
  have P7 := PV.ext hq7.ext
  have Q7 := QV.ext hq7.ext
  obtain ⟨p0, p1, p2, p3⟩ := box2 P7 (Ext.refl _)
  obtain ⟨q0, q1, q2, q3⟩ := box2 Q7 (Ext.refl _)
  have pz := P7.lt
  have qz := Q7.lt
  have H1 := H1.ext hq7.ext
  have H2 := H2.ext hq7.ext
  have G1 := G1.ext hq7.ext
  have G2 := G2.ext hq7.ext
  by_cases heq : m1 = m2
  · subst heq
    have hcm : cmpN m1 m1 = 0 := by unfold cmpN; simp
    rw [hcm]; clear hcm
    go_wp2_with fail
    refine (int_Add _ _ _ _ _ _ _ _ _ _ _ H1 H2 (by omega) (by omega)).mono ?_
    rintro e w8 ⟨a8, c8, rfl, hr8, hf8, hx8⟩
    have y8 : Ext W w8 := y7.trans hx8
    obtain ⟨k0_0, k0_1, k0_2, f0_0, f0_1, f0_2⟩ := box3 A0 y8
    have z0 := (A0.ext y8).lt
    obtain ⟨k1_0, k1_1, k1_2, f1_0, f1_1, f1_2⟩ := box3 A1 y8
    have z1 := (A1.ext y8).lt
    obtain ⟨k2_0, k2_1, k2_2, f2_0, f2_1, f2_2⟩ := box3 A2 y8
    have z2 := (A2.ext y8).lt
    have bl := len_intAdd (sgn s1 n1) (sgn s2 n2)
    rw [sgn_natAbs, sgn_natAbs] at bl
    go_wp2_with fail
    refine (rat_lowest _ _ _ _ _ _ _ _ _ _ hr8 (G1.ext hx8) hm1 (by omega) (by omega)).mono ?_
    intro e wz hN
    rw [sgn_num, mkRat_add_same _ _ _ hm1, HV.out, HV2.out] at hN
    obtain ⟨az, cz, az', cz', rfl, hrz, hfz, hrz', hfz', hxz⟩ := id hN
    obtain ⟨k0_0, k0_1, k0_2, f0_0, f0_1, f0_2⟩ := box3 A0 (y8.trans hxz)
    have z0 := (A0.ext (y8.trans hxz)).lt
    obtain ⟨k1_0, k1_1, k1_2, f1_0, f1_1, f1_2⟩ := box3 A1 (y8.trans hxz)
    have z1 := (A1.ext (y8.trans hxz)).lt
    obtain ⟨k2_0, k2_1, k2_2, f2_0, f2_1, f2_2⟩ := box3 A2 (y8.trans hxz)
    have z2 := (A2.ext (y8.trans hxz)).lt
    go_wp2
    exact bodyPost_ret (by simp [results, Tryz.results136, go_sem, *]) rfl (NewRat.touch (hN.base y8) x0 (Touch.three _ (by omega) (by rw [Z0.out]; omega) _ _ _))
  · have hcm : (cmpN m1 m2 == 0) = false := by rw [beq_eq_false_iff_ne]; rcases cmpN_cases m1 m2 with h | h | h <;> omega
    go_wp2
    have bl1 : len (sgn s1 n1 * sgn false m2).natAbs < 1000000000 := by rw [Int.natAbs_mul, sgn_natAbs, sgn_natAbs]; have := len_mul n1 m2; omega
    have bl2 : len (sgn s2 n2 * sgn false m1).natAbs < 1000000000 := by rw [Int.natAbs_mul, sgn_natAbs, sgn_natAbs]; have := len_mul n2 m1; omega
    have bl3 := len_intAdd (sgn s1 n1 * sgn false m2) (sgn s2 n2 * sgn false m1)
    rw [Int.natAbs_mul, Int.natAbs_mul, sgn_natAbs, sgn_natAbs, sgn_natAbs, sgn_natAbs] at bl3
    have bl4 := len_mul n1 m2
    have bl5 := len_mul n2 m1
    have bl6 := len_mul m1 m2
    have tok2 : True := trivial
    have sW : w.heap.size + 3 ≤ w7.heap.size := by have := y7.size; rw [Z0.out] at this; exact this
    go_cut [15] (fun s15 wx => ∃ (bb : Nat) (az : Option Addr) (cz : Nat), s15 = .pointer (some ⟨bb, 0, none⟩) ∧ w.heap.size + 3 ≤ bb ∧ Hid (Arr wx bb 53 [.bool (decide (sgn s1 n1 * sgn false m2 + sgn s2 n2 * sgn false m1 < 0)), .slice az (len (sgn s1 n1 * sgn false m2 + sgn s2 n2 * sgn false m1).natAbs) cz]) ∧ Raw wx az (len (sgn s1 n1 * sgn false m2 + sgn s2 n2 * sgn false m1).natAbs) cz (sgn s1 n1 * sgn false m2 + sgn s2 n2 * sgn false m1).natAbs ∧ Ext w7 wx)
    case first =>
      go_region_held3 (fun w' => w'.cell? ⟨w5.heap.size, 0, none⟩ = some (.bool s1) ∧ w'.cell? ⟨w5.heap.size, 1, none⟩ = some (.slice a1 k1 c1) ∧ w'.cell? ⟨w6.heap.size, 0, none⟩ = some (.bool s2) ∧ w'.cell? ⟨w6.heap.size, 1, none⟩ = some (.slice a2 k2 c2)) (first | exact ⟨p0, p1, q0, q1⟩ | (simp [go_sem, p0, p1, q0, q1, pz, qz]; done) | (simp [go_sem, p0, p1, q0, q1, pz, qz]; omega)) (first
        | (go_at_call 134; have _t := tok2; refine (int_Mul _ _ _ _ _ _ _ _ _ _ _ (H1.ext (by repeat (first | exact Ext.refl _ | exact v10 | exact v9 | exact v8 | refine Ext.trans ?_ hx10 | refine Ext.trans ?_ hx9 | refine Ext.trans ?_ hx8 | refine Ext.drew ?_ | refine Ext.alloc ?_ _ | refine Ext.setCell ?_ (by simp; omega) _))) (G2.ext (by repeat (first | exact Ext.refl _ | exact v10 | exact v9 | exact v8 | refine Ext.trans ?_ hx10 | refine Ext.trans ?_ hx9 | refine Ext.trans ?_ hx8 | refine Ext.drew ?_ | refine Ext.alloc ?_ _ | refine Ext.setCell ?_ (by simp; omega) _))) (by omega) (by omega)).mono ?_; rintro e w8 ⟨a8, c8, rfl, hr8, hf8, hx8⟩; clear tok2 _t; have v8 : Ext w7 w8 := (by repeat (first | exact Ext.refl _ | exact v10 | exact v9 | exact v8 | refine Ext.trans ?_ hx10 | refine Ext.trans ?_ hx9 | refine Ext.trans ?_ hx8 | refine Ext.drew ?_ | refine Ext.alloc ?_ _ | refine Ext.setCell ?_ (by simp; omega) _)); have z8 := v8.size; obtain ⟨p0, p1, p2, p3⟩ := box2 P7 v8; obtain ⟨q0, q1, q2, q3⟩ := box2 Q7 v8; have pz := (P7.ext v8).lt; have qz := (Q7.ext v8).lt; (first | (have RB : Arr w8 w7.heap.size 53 [.bool false, .slice none 0 0] := (Arr.alloc w7.drew 53 [.bool false, .slice none 0 0]).ext hx8; obtain ⟨r0, r1, r2, r3⟩ := box2 RB (Ext.refl _); have rz := RB.lt) | skip))
        | (go_at_call 134; refine (int_Mul _ _ _ _ _ _ _ _ _ _ _ (H2.ext (by repeat (first | exact Ext.refl _ | exact v10 | exact v9 | exact v8 | refine Ext.trans ?_ hx10 | refine Ext.trans ?_ hx9 | refine Ext.trans ?_ hx8 | refine Ext.drew ?_ | refine Ext.alloc ?_ _ | refine Ext.setCell ?_ (by simp; omega) _))) (G1.ext (by repeat (first | exact Ext.refl _ | exact v10 | exact v9 | exact v8 | refine Ext.trans ?_ hx10 | refine Ext.trans ?_ hx9 | refine Ext.trans ?_ hx8 | refine Ext.drew ?_ | refine Ext.alloc ?_ _ | refine Ext.setCell ?_ (by simp; omega) _))) (by omega) (by omega)).mono ?_; rintro e w9 ⟨a9, c9, rfl, hr9, hf9, hx9⟩; have v9 : Ext w7 w9 := (by repeat (first | exact Ext.refl _ | exact v10 | exact v9 | exact v8 | refine Ext.trans ?_ hx10 | refine Ext.trans ?_ hx9 | refine Ext.trans ?_ hx8 | refine Ext.drew ?_ | refine Ext.alloc ?_ _ | refine Ext.setCell ?_ (by simp; omega) _)); have z9 := v9.size; obtain ⟨p0, p1, p2, p3⟩ := box2 P7 v9; obtain ⟨q0, q1, q2, q3⟩ := box2 Q7 v9; have pz := (P7.ext v9).lt; have qz := (Q7.ext v9).lt; (first | (have RB := RB.ext hx9; obtain ⟨r0, r1, r2, r3⟩ := box2 RB (Ext.refl _); have rz := RB.lt) | (have RB := (Arr.alloc w8 53 [.bool false, .slice none 0 0]).ext hx9; obtain ⟨r0, r1, r2, r3⟩ := box2 RB (Ext.refl _); have rz := RB.lt) | skip))
        | (go_at_call 208; refine (int_Add _ _ _ _ _ _ _ _ _ _ _ (hr8.ext (by repeat (first | exact Ext.refl _ | exact v10 | exact v9 | exact v8 | refine Ext.trans ?_ hx10 | refine Ext.trans ?_ hx9 | refine Ext.trans ?_ hx8 | refine Ext.drew ?_ | refine Ext.alloc ?_ _ | refine Ext.setCell ?_ (by simp; omega) _))) (hr9.ext (by repeat (first | exact Ext.refl _ | exact v10 | exact v9 | exact v8 | refine Ext.trans ?_ hx10 | refine Ext.trans ?_ hx9 | refine Ext.trans ?_ hx8 | refine Ext.drew ?_ | refine Ext.alloc ?_ _ | refine Ext.setCell ?_ (by simp; omega) _))) bl1 bl2).mono ?_; rintro e w10 ⟨a10, c10, rfl, hr10, hf10, hx10⟩; have v10 : Ext w7 w10 := (by repeat (first | exact Ext.refl _ | exact v10 | exact v9 | exact v8 | refine Ext.trans ?_ hx10 | refine Ext.trans ?_ hx9 | refine Ext.trans ?_ hx8 | refine Ext.drew ?_ | refine Ext.alloc ?_ _ | refine Ext.setCell ?_ (by simp; omega) _)); have z10 := v10.size; obtain ⟨p0, p1, p2, p3⟩ := box2 P7 v10; obtain ⟨q0, q1, q2, q3⟩ := box2 Q7 v10; have pz := (P7.ext v10).lt; have qz := (Q7.ext v10).lt; (first | (have RB := RB.ext hx10; obtain ⟨r0, r1, r2, r3⟩ := box2 RB (Ext.refl _); have rz := RB.lt) | (have RB := (Arr.alloc w9 53 [.bool false, .slice none 0 0]).ext hx10; obtain ⟨r0, r1, r2, r3⟩ := box2 RB (Ext.refl _); have rz := RB.lt) | skip)))
      all_goals go_wp2_with fail
      all_goals go_meet
      all_goals simp only [sgn_num] at hr10 ⊢
      all_goals first
        | exact ⟨_, a10, c10, rfl, by omega, Arr.alloc _ _ _, hr10.ext ((Ext.refl _).alloc _), (by repeat (first | exact Ext.refl _ | exact v10 | exact v9 | exact v8 | refine Ext.trans ?_ hx10 | refine Ext.trans ?_ hx9 | refine Ext.trans ?_ hx8 | refine Ext.drew ?_ | refine Ext.alloc ?_ _ | refine Ext.setCell ?_ (by simp; omega) _))⟩
        | exact ⟨_, a10, c10, rfl, by omega, (RB.set 0 _).set 1 _, Raw.setCell (Raw.setCell hr10 _ _ (hf10.ne (by first | (simp; done) | (simp; omega) | omega))) _ _ (hf10.ne (by first | (simp; done) | (simp; omega) | omega)), Ext.set2 v10 (by omega) _ _⟩
    case rest =>
      obtain ⟨bb, az, cz, rfl, hb3, hA, hR, hx8⟩ := hcut
      have y8 : Ext W wc := y7.trans hx8
      obtain ⟨k0_0, k0_1, k0_2, f0_0, f0_1, f0_2⟩ := box3 A0 y8
      have z0 := (A0.ext y8).lt
      obtain ⟨k1_0, k1_1, k1_2, f1_0, f1_1, f1_2⟩ := box3 A1 y8
      have z1 := (A1.ext y8).lt
      obtain ⟨k2_0, k2_1, k2_2, f2_0, f2_1, f2_2⟩ := box3 A2 y8
      have z2 := (A2.ext y8).lt
      have A8 := hA.out
      obtain ⟨r0, r1, r2, r3⟩ := box2 A8 (Ext.refl _)
      have nb1 : ¬ (w.heap.size + 1 + 1 = bb) := by omega
      have nb2 : ¬ (bb = w.heap.size + 1 + 1) := by omega
      have nb3 : ¬ (w.heap.size + 2 = bb) := by omega
      have nb4 : ¬ (bb = w.heap.size + 2) := by omega
      have G1 := G1.ext hx8
      have G2 := G2.ext hx8
      go_wp2
      go_region_held3 (fun w' => w'.cell? ⟨bb, 0, none⟩ = some (.bool (decide (sgn s1 n1 * sgn false m2 + sgn s2 n2 * sgn false m1 < 0))) ∧ w'.cell? ⟨bb, 1, none⟩ = some (.slice az (len (sgn s1 n1 * sgn false m2 + sgn s2 n2 * sgn false m1).natAbs) cz)) (first | exact ⟨r0, r1⟩ | (simp [go_sem, r0, r1, nb1, nb2, nb3, nb4]; done)) (first
        | (go_at_call 157; refine (nat_Mul _ _ _ _ _ _ _ _ _ (G1.ext (by exact (Ext.refl _).drew)) (G2.ext (by exact (Ext.refl _).drew)) (by omega) (by omega)).mono ?_; rintro e w11 ⟨a11, c11, rfl, hr11, hf11, hx11⟩; obtain ⟨r0, r1, r2, r3⟩ := box2 A8 ((Ext.refl wc).drew.trans hx11); obtain ⟨k0_0, k0_1, k0_2, f0_0, f0_1, f0_2⟩ := box3 A0 ((y8.drew).trans hx11); have z0 := (A0.ext ((y8.drew).trans hx11)).lt; obtain ⟨k1_0, k1_1, k1_2, f1_0, f1_1, f1_2⟩ := box3 A1 ((y8.drew).trans hx11); have z1 := (A1.ext ((y8.drew).trans hx11)).lt; obtain ⟨k2_0, k2_1, k2_2, f2_0, f2_1, f2_2⟩ := box3 A2 ((y8.drew).trans hx11); have z2 := (A2.ext ((y8.drew).trans hx11)).lt)
        | (go_at_call 156; refine (rat_lowest _ _ _ _ _ _ _ _ _ _ ((hR.ext (by exact (Ext.refl _).drew)).ext hx11) hr11 (Nat.mul_pos hm1 hm2) (by omega) (by omega)).mono ?_; intro e wz hN; rw [sgn_num, sgn_false, sgn_false, mkRat_add _ _ _ _ hm1 hm2, HV.out, HV2.out] at hN; obtain ⟨au, cu, au', cu', rfl, hrz, hfz, hrz', hfz', hxz⟩ := id hN; obtain ⟨r0, r1, r2, r3⟩ := box2 A8 (((Ext.refl wc).drew.trans hx11).trans hxz); obtain ⟨k0_0, k0_1, k0_2, f0_0, f0_1, f0_2⟩ := box3 A0 (((y8.drew).trans hx11).trans hxz); have z0 := (A0.ext (((y8.drew).trans hx11).trans hxz)).lt; obtain ⟨k1_0, k1_1, k1_2, f1_0, f1_1, f1_2⟩ := box3 A1 (((y8.drew).trans hx11).trans hxz); have z1 := (A1.ext (((y8.drew).trans hx11).trans hxz)).lt; obtain ⟨k2_0, k2_1, k2_2, f2_0, f2_1, f2_2⟩ := box3 A2 (((y8.drew).trans hx11).trans hxz); have z2 := (A2.ext (((y8.drew).trans hx11).trans hxz)).lt))
      go_wp2
      exact bodyPost_ret (by simp [results, Tryz.results136, go_sem, *]) rfl (NewRat.touch (hN.base ((y8.drew).trans hx11)) x0 (Touch.three _ (by omega) (by rw [Z0.out]; omega) _ _ _))

set_option maxHeartbeats 4000000 in
set_option maxRecDepth 100000 in
theorem rat_Add_ff (w : World) (s : Bool) (a b : Option Addr) (k c j d n m : Nat) (h : Raw w a k c n) (g : Raw w b j d m) (s' : Bool) (a' b' : Option Addr) (k' c' j' d' n' m' : Nat) (h' : Raw w a' k' c' n') (g' : Raw w b' j' d' m') (b1 : len n < 100000000) (b2 : len m < 100000000) (b1' : len n' < 100000000) (b2' : len m' < 100000000) (hn0 : ¬ mkRat (sgn s n) m = 0) (hn0' : ¬ mkRat (sgn s' n') m' = 0) (ha : ¬ (n < 2147483648 ∧ m < 2147483648)) (hb : ¬ (n' < 2147483648 ∧ m' < 2147483648)) :
    Calls Tryz.prog 136 #[.agg #[.bool s, .slice a k c, .slice b j d], .agg #[.bool s', .slice a' k' c', .slice b' j' d']] w (NewRat (mkRat (sgn s n) m + mkRat (sgn s' n') m') w) := by
  have hs1 : ((mkRat (sgn s n) m).num.sign == 0) = false := by rw [beq_eq_false_iff_ne]; exact fun h => hn0 (sign_zero_iff.1 h)
  have hs2 : ((mkRat (sgn s' n') m').num.sign == 0) = false := by rw [beq_eq_false_iff_ne]; exact fun h => hn0' (sign_zero_iff.1 h)
  clear hn0 hn0'
  have HA := Lib.hid ha; have HB := Lib.hid hb; clear ha hb
  go_enter Tryz.func136, Tryz.ntmps136
  go_wp2_with fail
  obtain ⟨W, hW, x0, Z0, A0, A1, A2⟩ := boxes3 w 55 [.bool s, .slice a k c, .slice b j d] 55 [.bool s', .slice a' k' c', .slice b' j' d'] 55 [.bool false, .slice none 0 0, .slice none 0 0]
  rw [← hW]
  clear hW
  obtain ⟨k0_0, k0_1, k0_2, f0_0, f0_1, f0_2⟩ := box3 A0 (Ext.refl _)
  have z0 := (A0.ext (Ext.refl _)).lt
  obtain ⟨k1_0, k1_1, k1_2, f1_0, f1_1, f1_2⟩ := box3 A1 (Ext.refl _)
  have z1 := (A1.ext (Ext.refl _)).lt
  obtain ⟨k2_0, k2_1, k2_2, f2_0, f2_1, f2_2⟩ := box3 A2 (Ext.refl _)
  have z2 := (A2.ext (Ext.refl _)).lt
  refine (rat_Sign _ _ _ _ _ _ _ _ _ _ (h.ext x0) (g.ext x0)).mono ?_
  rintro e w1 ⟨rfl, hx1⟩
  obtain ⟨k0_0, k0_1, k0_2, f0_0, f0_1, f0_2⟩ := box3 A0 hx1
  have z0 := (A0.ext hx1).lt
  obtain ⟨k1_0, k1_1, k1_2, f1_0, f1_1, f1_2⟩ := box3 A1 hx1
  have z1 := (A1.ext hx1).lt
  obtain ⟨k2_0, k2_1, k2_2, f2_0, f2_1, f2_2⟩ := box3 A2 hx1
  have z2 := (A2.ext hx1).lt
  go_wp2_with fail
  refine (rat_Sign _ _ _ _ _ _ _ _ _ _ ((h'.ext x0).ext hx1) ((g'.ext x0).ext hx1)).mono ?_
  rintro e w2 ⟨rfl, hx2⟩
  have y2 : Ext W w2 := hx1.trans hx2
  obtain ⟨k0_0, k0_1, k0_2, f0_0, f0_1, f0_2⟩ := box3 A0 y2
  have z0 := (A0.ext y2).lt
  obtain ⟨k1_0, k1_1, k1_2, f1_0, f1_1, f1_2⟩ := box3 A1 y2
  have z1 := (A1.ext y2).lt
  obtain ⟨k2_0, k2_1, k2_2, f2_0, f2_1, f2_2⟩ := box3 A2 y2
  have z2 := (A2.ext y2).lt
  go_wp2_with fail
  refine (rat_small_no _ _ _ _ _ _ _ _ _ _ ((h.ext x0).ext y2) ((g.ext x0).ext y2) HA.out).mono ?_
  rintro e w3 ⟨rfl, hx3⟩
  have y3 : Ext W w3 := y2.trans hx3
  obtain ⟨k0_0, k0_1, k0_2, f0_0, f0_1, f0_2⟩ := box3 A0 y3
  have z0 := (A0.ext y3).lt
  obtain ⟨k1_0, k1_1, k1_2, f1_0, f1_1, f1_2⟩ := box3 A1 y3
  have z1 := (A1.ext y3).lt
  obtain ⟨k2_0, k2_1, k2_2, f2_0, f2_1, f2_2⟩ := box3 A2 y3
  have z2 := (A2.ext y3).lt
  go_wp2_with fail
  refine (rat_small_no _ _ _ _ _ _ _ _ _ _ ((h'.ext x0).ext y3) ((g'.ext x0).ext y3) HB.out).mono ?_
  rintro e w4 ⟨rfl, hx4⟩
  have y4 : Ext W w4 := y3.trans hx4
  obtain ⟨k0_0, k0_1, k0_2, f0_0, f0_1, f0_2⟩ := box3 A0 y4
  have z0 := (A0.ext y4).lt
  obtain ⟨k1_0, k1_1, k1_2, f1_0, f1_1, f1_2⟩ := box3 A1 y4
  have z1 := (A1.ext y4).lt
  obtain ⟨k2_0, k2_1, k2_2, f2_0, f2_1, f2_2⟩ := box3 A2 y4
  have z2 := (A2.ext y4).lt
  go_wp2_with fail
  refine (rat_parts _ _ _ _ _ _ _ _ _ _ ((h.ext x0).ext y4) ((g.ext x0).ext y4)).mono ?_
  rintro e w5 ⟨s1, a1, k1, c1, n1, e1, j1, d1, m1, rfl, h1, g1, hm1, hv, l1, l2, hx5⟩
  have HV := Lib.hid hv; clear hv
  have y5 : Ext W w5 := y4.trans hx5
  obtain ⟨k0_0, k0_1, k0_2, f0_0, f0_1, f0_2⟩ := box3 A0 y5
  have z0 := (A0.ext y5).lt
  obtain ⟨k1_0, k1_1, k1_2, f1_0, f1_1, f1_2⟩ := box3 A1 y5
  have z1 := (A1.ext y5).lt
  obtain ⟨k2_0, k2_1, k2_2, f2_0, f2_1, f2_2⟩ := box3 A2 y5
  have z2 := (A2.ext y5).lt
  have P5 := Arr.alloc w5 53 [.bool s1, .slice a1 k1 c1]
  have y5' := y5.alloc (.cells #[.bool s1, .slice a1 k1 c1] 53)
  go_wp2_with fail
  refine (rat_parts _ _ _ _ _ _ _ _ _ _ ((h'.ext x0).ext y5') ((g'.ext x0).ext y5')).mono ?_
  rintro e w6 ⟨s2, a2, k2, c2, n2, e2, j2, d2, m2, rfl, h2, g2, hm2, hv2, l3, l4, hx6⟩
  have HV2 := Lib.hid hv2; clear hv2
  have y6 : Ext W w6 := y5'.trans hx6
  obtain ⟨k0_0, k0_1, k0_2, f0_0, f0_1, f0_2⟩ := box3 A0 y6
  have z0 := (A0.ext y6).lt
  obtain ⟨k1_0, k1_1, k1_2, f1_0, f1_1, f1_2⟩ := box3 A1 y6
  have z1 := (A1.ext y6).lt
  obtain ⟨k2_0, k2_1, k2_2, f2_0, f2_1, f2_2⟩ := box3 A2 y6
  have z2 := (A2.ext y6).lt
  obtain ⟨p0, p1, p2, p3⟩ := box2 P5 hx6
  have pz := (P5.ext hx6).lt
  have yV : Ext w6 (w6.alloc (.cells #[.bool s2, .slice a2 k2 c2] 53)) := (Ext.refl _).alloc _
  have PV := (P5.ext hx6).ext yV
  have QV := Arr.alloc w6 53 [.bool s2, .slice a2 k2 c2]
  have H1 := ((h1.ext ((Ext.refl w5).alloc _)).ext hx6).ext yV
  have G1 := ((g1.ext ((Ext.refl w5).alloc _)).ext hx6).ext yV
  have H2 := h2.ext yV
  have G2 := g2.ext yV
  have yW := y6.trans yV
  go_wp2_with fail
  refine (nat_Compare _ _ _ _ _ _ _ _ _ G1 G2).mono ?_
  rintro e w7 ⟨rfl, hq7⟩
  have y7 : Ext W w7 := yW.trans hq7.ext
  obtain ⟨k0_0, k0_1, k0_2, f0_0, f0_1, f0_2⟩ := box3 A0 y7
  have z0 := (A0.ext y7).lt
  obtain ⟨k1_0, k1_1, k1_2, f1_0, f1_1, f1_2⟩ := box3 A1 y7
  have z1 := (A1.ext y7).lt
  obtain ⟨k2_0, k2_1, k2_2, f2_0, f2_1, f2_2⟩ := box3 A2 y7
  have z2 := (A2.ext y7).lt
  have P7 := PV.ext hq7.ext
  have Q7 := QV.ext hq7.ext
  obtain ⟨p0, p1, p2, p3⟩ := box2 P7 (Ext.refl _)
  obtain ⟨q0, q1, q2, q3⟩ := box2 Q7 (Ext.refl _)
  have pz := P7.lt
  have qz := Q7.lt
  have H1 := H1.ext hq7.ext
  have H2 := H2.ext hq7.ext
  have G1 := G1.ext hq7.ext
  have G2 := G2.ext hq7.ext
  by_cases heq : m1 = m2
  · subst heq
    have hcm : cmpN m1 m1 = 0 := by unfold cmpN; simp
    rw [hcm]; clear hcm
    go_wp2_with fail
    refine (int_Add _ _ _ _ _ _ _ _ _ _ _ H1 H2 (by omega) (by omega)).mono ?_
    rintro e w8 ⟨a8, c8, rfl, hr8, hf8, hx8⟩
    have y8 : Ext W w8 := y7.trans hx8
    obtain ⟨k0_0, k0_1, k0_2, f0_0, f0_1, f0_2⟩ := box3 A0 y8
    have z0 := (A0.ext y8).lt
    obtain ⟨k1_0, k1_1, k1_2, f1_0, f1_1, f1_2⟩ := box3 A1 y8
    have z1 := (A1.ext y8).lt
    obtain ⟨k2_0, k2_1, k2_2, f2_0, f2_1, f2_2⟩ := box3 A2 y8
    have z2 := (A2.ext y8).lt
    have bl := len_intAdd (sgn s1 n1) (sgn s2 n2)
    rw [sgn_natAbs, sgn_natAbs] at bl
    go_wp2_with fail
    refine (rat_lowest _ _ _ _ _ _ _ _ _ _ hr8 (G1.ext hx8) hm1 (by omega) (by omega)).mono ?_
    intro e wz hN
    rw [sgn_num, mkRat_add_same _ _ _ hm1, HV.out, HV2.out] at hN
    obtain ⟨az, cz, az', cz', rfl, hrz, hfz, hrz', hfz', hxz⟩ := id hN
    obtain ⟨k0_0, k0_1, k0_2, f0_0, f0_1, f0_2⟩ := box3 A0 (y8.trans hxz)
    have z0 := (A0.ext (y8.trans hxz)).lt
    obtain ⟨k1_0, k1_1, k1_2, f1_0, f1_1, f1_2⟩ := box3 A1 (y8.trans hxz)
    have z1 := (A1.ext (y8.trans hxz)).lt
    obtain ⟨k2_0, k2_1, k2_2, f2_0, f2_1, f2_2⟩ := box3 A2 (y8.trans hxz)
    have z2 := (A2.ext (y8.trans hxz)).lt
    go_wp2
    exact bodyPost_ret (by simp [results, Tryz.results136, go_sem, *]) rfl (NewRat.touch (hN.base y8) x0 (Touch.three _ (by omega) (by rw [Z0.out]; omega) _ _ _))
  · have hcm : (cmpN m1 m2 == 0) = false := by rw [beq_eq_false_iff_ne]; rcases cmpN_cases m1 m2 with h | h | h <;> omega
    go_wp2
    have bl1 : len (sgn s1 n1 * sgn false m2).natAbs < 1000000000 := by rw [Int.natAbs_mul, sgn_natAbs, sgn_natAbs]; have := len_mul n1 m2; omega
    have bl2 : len (sgn s2 n2 * sgn false m1).natAbs < 1000000000 := by rw [Int.natAbs_mul, sgn_natAbs, sgn_natAbs]; have := len_mul n2 m1; omega
    have bl3 := len_intAdd (sgn s1 n1 * sgn false m2) (sgn s2 n2 * sgn false m1)
    rw [Int.natAbs_mul, Int.natAbs_mul, sgn_natAbs, sgn_natAbs, sgn_natAbs, sgn_natAbs] at bl3
    have bl4 := len_mul n1 m2
    have bl5 := len_mul n2 m1
    have bl6 := len_mul m1 m2
    have tok2 : True := trivial
    have sW : w.heap.size + 3 ≤ w7.heap.size := by have := y7.size; rw [Z0.out] at this; exact this
    go_cut [15] (fun s15 wx => ∃ (bb : Nat) (az : Option Addr) (cz : Nat), s15 = .pointer (some ⟨bb, 0, none⟩) ∧ w.heap.size + 3 ≤ bb ∧ Hid (Arr wx bb 53 [.bool (decide (sgn s1 n1 * sgn false m2 + sgn s2 n2 * sgn false m1 < 0)), .slice az (len (sgn s1 n1 * sgn false m2 + sgn s2 n2 * sgn false m1).natAbs) cz]) ∧ Raw wx az (len (sgn s1 n1 * sgn false m2 + sgn s2 n2 * sgn false m1).natAbs) cz (sgn s1 n1 * sgn false m2 + sgn s2 n2 * sgn false m1).natAbs ∧ Ext w7 wx)
    case first =>
      go_region_held3 (fun w' => w'.cell? ⟨w5.heap.size, 0, none⟩ = some (.bool s1) ∧ w'.cell? ⟨w5.heap.size, 1, none⟩ = some (.slice a1 k1 c1) ∧ w'.cell? ⟨w6.heap.size, 0, none⟩ = some (.bool s2) ∧ w'.cell? ⟨w6.heap.size, 1, none⟩ = some (.slice a2 k2 c2)) (first | exact ⟨p0, p1, q0, q1⟩ | (simp [go_sem, p0, p1, q0, q1, pz, qz]; done) | (simp [go_sem, p0, p1, q0, q1, pz, qz]; omega)) (first
        | (go_at_call 134; have _t := tok2; refine (int_Mul _ _ _ _ _ _ _ _ _ _ _ (H1.ext (by repeat (first | exact Ext.refl _ | exact v10 | exact v9 | exact v8 | refine Ext.trans ?_ hx10 | refine Ext.trans ?_ hx9 | refine Ext.trans ?_ hx8 | refine Ext.drew ?_ | refine Ext.alloc ?_ _ | refine Ext.setCell ?_ (by simp; omega) _))) (G2.ext (by repeat (first | exact Ext.refl _ | exact v10 | exact v9 | exact v8 | refine Ext.trans ?_ hx10 | refine Ext.trans ?_ hx9 | refine Ext.trans ?_ hx8 | refine Ext.drew ?_ | refine Ext.alloc ?_ _ | refine Ext.setCell ?_ (by simp; omega) _))) (by omega) (by omega)).mono ?_; rintro e w8 ⟨a8, c8, rfl, hr8, hf8, hx8⟩; clear tok2 _t; have v8 : Ext w7 w8 := (by repeat (first | exact Ext.refl _ | exact v10 | exact v9 | exact v8 | refine Ext.trans ?_ hx10 | refine Ext.trans ?_ hx9 | refine Ext.trans ?_ hx8 | refine Ext.drew ?_ | refine Ext.alloc ?_ _ | refine Ext.setCell ?_ (by simp; omega) _)); have z8 := v8.size; obtain ⟨p0, p1, p2, p3⟩ := box2 P7 v8; obtain ⟨q0, q1, q2, q3⟩ := box2 Q7 v8; have pz := (P7.ext v8).lt; have qz := (Q7.ext v8).lt; (first | (have RB : Arr w8 w7.heap.size 53 [.bool false, .slice none 0 0] := (Arr.alloc w7.drew 53 [.bool false, .slice none 0 0]).ext hx8; obtain ⟨r0, r1, r2, r3⟩ := box2 RB (Ext.refl _); have rz := RB.lt) | skip))
        | (go_at_call 134; refine (int_Mul _ _ _ _ _ _ _ _ _ _ _ (H2.ext (by repeat (first | exact Ext.refl _ | exact v10 | exact v9 | exact v8 | refine Ext.trans ?_ hx10 | refine Ext.trans ?_ hx9 | refine Ext.trans ?_ hx8 | refine Ext.drew ?_ | refine Ext.alloc ?_ _ | refine Ext.setCell ?_ (by simp; omega) _))) (G1.ext (by repeat (first | exact Ext.refl _ | exact v10 | exact v9 | exact v8 | refine Ext.trans ?_ hx10 | refine Ext.trans ?_ hx9 | refine Ext.trans ?_ hx8 | refine Ext.drew ?_ | refine Ext.alloc ?_ _ | refine Ext.setCell ?_ (by simp; omega) _))) (by omega) (by omega)).mono ?_; rintro e w9 ⟨a9, c9, rfl, hr9, hf9, hx9⟩; have v9 : Ext w7 w9 := (by repeat (first | exact Ext.refl _ | exact v10 | exact v9 | exact v8 | refine Ext.trans ?_ hx10 | refine Ext.trans ?_ hx9 | refine Ext.trans ?_ hx8 | refine Ext.drew ?_ | refine Ext.alloc ?_ _ | refine Ext.setCell ?_ (by simp; omega) _)); have z9 := v9.size; obtain ⟨p0, p1, p2, p3⟩ := box2 P7 v9; obtain ⟨q0, q1, q2, q3⟩ := box2 Q7 v9; have pz := (P7.ext v9).lt; have qz := (Q7.ext v9).lt; (first | (have RB := RB.ext hx9; obtain ⟨r0, r1, r2, r3⟩ := box2 RB (Ext.refl _); have rz := RB.lt) | (have RB := (Arr.alloc w8 53 [.bool false, .slice none 0 0]).ext hx9; obtain ⟨r0, r1, r2, r3⟩ := box2 RB (Ext.refl _); have rz := RB.lt) | skip))
        | (go_at_call 208; refine (int_Add _ _ _ _ _ _ _ _ _ _ _ (hr8.ext (by repeat (first | exact Ext.refl _ | exact v10 | exact v9 | exact v8 | refine Ext.trans ?_ hx10 | refine Ext.trans ?_ hx9 | refine Ext.trans ?_ hx8 | refine Ext.drew ?_ | refine Ext.alloc ?_ _ | refine Ext.setCell ?_ (by simp; omega) _))) (hr9.ext (by repeat (first | exact Ext.refl _ | exact v10 | exact v9 | exact v8 | refine Ext.trans ?_ hx10 | refine Ext.trans ?_ hx9 | refine Ext.trans ?_ hx8 | refine Ext.drew ?_ | refine Ext.alloc ?_ _ | refine Ext.setCell ?_ (by simp; omega) _))) bl1 bl2).mono ?_; rintro e w10 ⟨a10, c10, rfl, hr10, hf10, hx10⟩; have v10 : Ext w7 w10 := (by repeat (first | exact Ext.refl _ | exact v10 | exact v9 | exact v8 | refine Ext.trans ?_ hx10 | refine Ext.trans ?_ hx9 | refine Ext.trans ?_ hx8 | refine Ext.drew ?_ | refine Ext.alloc ?_ _ | refine Ext.setCell ?_ (by simp; omega) _)); have z10 := v10.size; obtain ⟨p0, p1, p2, p3⟩ := box2 P7 v10; obtain ⟨q0, q1, q2, q3⟩ := box2 Q7 v10; have pz := (P7.ext v10).lt; have qz := (Q7.ext v10).lt; (first | (have RB := RB.ext hx10; obtain ⟨r0, r1, r2, r3⟩ := box2 RB (Ext.refl _); have rz := RB.lt) | (have RB := (Arr.alloc w9 53 [.bool false, .slice none 0 0]).ext hx10; obtain ⟨r0, r1, r2, r3⟩ := box2 RB (Ext.refl _); have rz := RB.lt) | skip)))
      all_goals go_wp2_with fail
      all_goals go_meet
      all_goals simp only [sgn_num] at hr10 ⊢
      all_goals first
        | exact ⟨_, a10, c10, rfl, by omega, Arr.alloc _ _ _, hr10.ext ((Ext.refl _).alloc _), (by repeat (first | exact Ext.refl _ | exact v10 | exact v9 | exact v8 | refine Ext.trans ?_ hx10 | refine Ext.trans ?_ hx9 | refine Ext.trans ?_ hx8 | refine Ext.drew ?_ | refine Ext.alloc ?_ _ | refine Ext.setCell ?_ (by simp; omega) _))⟩
        | exact ⟨_, a10, c10, rfl, by omega, (RB.set 0 _).set 1 _, Raw.setCell (Raw.setCell hr10 _ _ (hf10.ne (by first | (simp; done) | (simp; omega) | omega))) _ _ (hf10.ne (by first | (simp; done) | (simp; omega) | omega)), Ext.set2 v10 (by omega) _ _⟩
    case rest =>
      obtain ⟨bb, az, cz, rfl, hb3, hA, hR, hx8⟩ := hcut
      have y8 : Ext W wc := y7.trans hx8
      obtain ⟨k0_0, k0_1, k0_2, f0_0, f0_1, f0_2⟩ := box3 A0 y8
      have z0 := (A0.ext y8).lt
      obtain ⟨k1_0, k1_1, k1_2, f1_0, f1_1, f1_2⟩ := box3 A1 y8
      have z1 := (A1.ext y8).lt
      obtain ⟨k2_0, k2_1, k2_2, f2_0, f2_1, f2_2⟩ := box3 A2 y8
      have z2 := (A2.ext y8).lt
      have A8 := hA.out
      obtain ⟨r0, r1, r2, r3⟩ := box2 A8 (Ext.refl _)
      have nb1 : ¬ (w.heap.size + 1 + 1 = bb) := by omega
      have nb2 : ¬ (bb = w.heap.size + 1 + 1) := by omega
      have nb3 : ¬ (w.heap.size + 2 = bb) := by omega
      have nb4 : ¬ (bb = w.heap.size + 2) := by omega
      have G1 := G1.ext hx8
      have G2 := G2.ext hx8
      go_wp2
      go_region_held3 (fun w' => w'.cell? ⟨bb, 0, none⟩ = some (.bool (decide (sgn s1 n1 * sgn false m2 + sgn s2 n2 * sgn false m1 < 0))) ∧ w'.cell? ⟨bb, 1, none⟩ = some (.slice az (len (sgn s1 n1 * sgn false m2 + sgn s2 n2 * sgn false m1).natAbs) cz)) (first | exact ⟨r0, r1⟩ | (simp [go_sem, r0, r1, nb1, nb2, nb3, nb4]; done)) (first
        | (go_at_call 157; refine (nat_Mul _ _ _ _ _ _ _ _ _ (G1.ext (by exact (Ext.refl _).drew)) (G2.ext (by exact (Ext.refl _).drew)) (by omega) (by omega)).mono ?_; rintro e w11 ⟨a11, c11, rfl, hr11, hf11, hx11⟩; obtain ⟨r0, r1, r2, r3⟩ := box2 A8 ((Ext.refl wc).drew.trans hx11); obtain ⟨k0_0, k0_1, k0_2, f0_0, f0_1, f0_2⟩ := box3 A0 ((y8.drew).trans hx11); have z0 := (A0.ext ((y8.drew).trans hx11)).lt; obtain ⟨k1_0, k1_1, k1_2, f1_0, f1_1, f1_2⟩ := box3 A1 ((y8.drew).trans hx11); have z1 := (A1.ext ((y8.drew).trans hx11)).lt; obtain ⟨k2_0, k2_1, k2_2, f2_0, f2_1, f2_2⟩ := box3 A2 ((y8.drew).trans hx11); have z2 := (A2.ext ((y8.drew).trans hx11)).lt)
        | (go_at_call 156; refine (rat_lowest _ _ _ _ _ _ _ _ _ _ ((hR.ext (by exact (Ext.refl _).drew)).ext hx11) hr11 (Nat.mul_pos hm1 hm2) (by omega) (by omega)).mono ?_; intro e wz hN; rw [sgn_num, sgn_false, sgn_false, mkRat_add _ _ _ _ hm1 hm2, HV.out, HV2.out] at hN; obtain ⟨au, cu, au', cu', rfl, hrz, hfz, hrz', hfz', hxz⟩ := id hN; obtain ⟨r0, r1, r2, r3⟩ := box2 A8 (((Ext.refl wc).drew.trans hx11).trans hxz); obtain ⟨k0_0, k0_1, k0_2, f0_0, f0_1, f0_2⟩ := box3 A0 (((y8.drew).trans hx11).trans hxz); have z0 := (A0.ext (((y8.drew).trans hx11).trans hxz)).lt; obtain ⟨k1_0, k1_1, k1_2, f1_0, f1_1, f1_2⟩ := box3 A1 (((y8.drew).trans hx11).trans hxz); have z1 := (A1.ext (((y8.drew).trans hx11).trans hxz)).lt; obtain ⟨k2_0, k2_1, k2_2, f2_0, f2_1, f2_2⟩ := box3 A2 (((y8.drew).trans hx11).trans hxz); have z2 := (A2.ext (((y8.drew).trans hx11).trans hxz)).lt))
      go_wp2
      exact bodyPost_ret (by simp [results, Tryz.results136, go_sem, *]) rfl (NewRat.touch (hN.base ((y8.drew).trans hx11)) x0 (Touch.three _ (by omega) (by rw [Z0.out]; omega) _ _ _))

/-- rational.Add. -/
theorem rat_Add (w : World) (s : Bool) (a b : Option Addr) (k c j d n m : Nat) (h : Raw w a k c n) (g : Raw w b j d m) (s' : Bool) (a' b' : Option Addr) (k' c' j' d' n' m' : Nat) (h' : Raw w a' k' c' n') (g' : Raw w b' j' d' m') (b1 : len n < 100000000) (b2 : len m < 100000000) (b1' : len n' < 100000000) (b2' : len m' < 100000000) :
    Calls Tryz.prog 136 #[.agg #[.bool s, .slice a k c, .slice b j d], .agg #[.bool s', .slice a' k' c', .slice b' j' d']] w (NewRat (mkRat (sgn s n) m + mkRat (sgn s' n') m') w) := by
  by_cases h0 : mkRat (sgn s n) m = 0
  · exact rat_Add_zero1 w _ _ _ _ _ _ _ _ _ h g _ _ _ _ _ _ _ _ _ h' g' b1 b2 b1' b2' h0
  by_cases h0' : mkRat (sgn s' n') m' = 0
  · exact rat_Add_zero2 w _ _ _ _ _ _ _ _ _ h g _ _ _ _ _ _ _ _ _ h' g' b1 b2 b1' b2' h0 h0'
  by_cases ha : n < 2147483648 ∧ m < 2147483648
  · by_cases hb : n' < 2147483648 ∧ m' < 2147483648
    · exact rat_Add_tt w _ _ _ _ _ _ _ _ _ h g _ _ _ _ _ _ _ _ _ h' g' b1 b2 b1' b2' h0 h0' ha hb
    · exact rat_Add_tf w _ _ _ _ _ _ _ _ _ h g _ _ _ _ _ _ _ _ _ h' g' b1 b2 b1' b2' h0 h0' ha hb
  · by_cases hb : n' < 2147483648 ∧ m' < 2147483648
    · exact rat_Add_ft w _ _ _ _ _ _ _ _ _ h g _ _ _ _ _ _ _ _ _ h' g' b1 b2 b1' b2' h0 h0' ha hb
    · exact rat_Add_ff w _ _ _ _ _ _ _ _ _ h g _ _ _ _ _ _ _ _ _ h' g' b1 b2 b1' b2' h0 h0' ha hb

theorem mkRat_neg_sgn (s : Bool) (n m : Nat) : mkRat (sgn (!s) n) m = - mkRat (sgn s n) m := by rw [sgn_not, Rat.neg_mkRat]

end Go.Proofs.YtgihpfkjpfanmaaGreat

/- Contracts of rational.Sub, Div, floor, Floor. -/
namespace Go.Proofs.YtgihpfkjpfanmaaGreat
open Go.RowKit

set_option maxHeartbeats 1000000 in
/-- rational.Sub. -/
theorem rat_Sub (w : World) (s : Bool) (a b : Option Addr) (k c j d n m : Nat) (h : Raw w a k c n) (g : Raw w b j d m) (s' : Bool) (a' b' : Option Addr) (k' c' j' d' n' m' : Nat) (h' : Raw w a' k' c' n') (g' : Raw w b' j' d' m') (b1 : len n < 100000000) (b2 : len m < 100000000) (b1' : len n' < 100000000) (b2' : len m' < 100000000) :
    Calls Tryz.prog 85 #[.agg #[.bool s, .slice a k c, .slice b j d], .agg #[.bool s', .slice a' k' c', .slice b' j' d']] w (NewRat (mkRat (sgn s n) m - mkRat (sgn s' n') m') w) := by
  go_enter Tryz.func85, Tryz.ntmps85
  go_wp2_with fail
  obtain ⟨W, hW, x0, Z0, A0, A1, A2⟩ := boxes3 w 55 [.bool s, .slice a k c, .slice b j d] 55 [.bool (!s'), .slice a' k' c', .slice b' j' d'] 55 [.bool false, .slice none 0 0, .slice none 0 0]
  rw [← hW]
  clear hW
  obtain ⟨k0_0, k0_1, k0_2, f0_0, f0_1, f0_2⟩ := box3 A0 (Ext.refl _)
  have z0 := (A0.ext (Ext.refl _)).lt
  obtain ⟨k1_0, k1_1, k1_2, f1_0, f1_1, f1_2⟩ := box3 A1 (Ext.refl _)
  have z1 := (A1.ext (Ext.refl _)).lt
  obtain ⟨k2_0, k2_1, k2_2, f2_0, f2_1, f2_2⟩ := box3 A2 (Ext.refl _)
  have z2 := (A2.ext (Ext.refl _)).lt
  refine (rat_Add _ _ _ _ _ _ _ _ _ _ (h.ext x0) (g.ext x0) _ _ _ _ _ _ _ _ _ (h'.ext x0) (g'.ext x0) b1 b2 b1' b2').mono ?_
  intro e wz hN
  rw [mkRat_neg_sgn, ← Rat.sub_eq_add_neg] at hN
  obtain ⟨az, cz, az', cz', rfl, hrz, hfz, hrz', hfz', hxz⟩ := id hN
  obtain ⟨k0_0, k0_1, k0_2, f0_0, f0_1, f0_2⟩ := box3 A0 ((Ext.refl W).trans hxz)
  have z0 := (A0.ext ((Ext.refl W).trans hxz)).lt
  obtain ⟨k1_0, k1_1, k1_2, f1_0, f1_1, f1_2⟩ := box3 A1 ((Ext.refl W).trans hxz)
  have z1 := (A1.ext ((Ext.refl W).trans hxz)).lt
  obtain ⟨k2_0, k2_1, k2_2, f2_0, f2_1, f2_2⟩ := box3 A2 ((Ext.refl W).trans hxz)
  have z2 := (A2.ext ((Ext.refl W).trans hxz)).lt
  go_wp2
  exact bodyPost_ret (by simp [results, Tryz.results85, go_sem, *]) rfl (NewRat.touch (hN.base (Ext.refl W)) x0 (Touch.three _ (by omega) (by rw [Z0.out]; omega) _ _ _))

/-- A call returns a new rational number and true. -/
def NewRatOk (q : Rat) (w : World) (e : Ending) (w' : World) : Prop := ∃ a c a' c', e = .returned (.tuple #[.agg #[.bool (decide (q.num < 0)), .slice a (len q.num.natAbs) c, .slice a' (len q.den) c'], .bool true]) ∧
  Raw w' a (len q.num.natAbs) c q.num.natAbs ∧ Fr w.heap.size a ∧ Raw w' a' (len q.den) c' q.den ∧ Fr w.heap.size a' ∧ Ext w w'

theorem mkRat_inv (s : Bool) (n m : Nat) : mkRat (sgn s m) n = (mkRat (sgn s n) m)⁻¹ := by
  rw [← Rat.divInt_ofNat, ← Rat.divInt_ofNat, Rat.inv_divInt]
  cases s
  · rfl
  · rw [sgn_true, sgn_true, Rat.divInt_neg']

set_option maxHeartbeats 1000000 in
/-- rational.Div by 0. -/
theorem rat_Div_zero (w : World) (s : Bool) (a b : Option Addr) (k c j d n m : Nat) (h : Raw w a k c n) (g : Raw w b j d m) (s' : Bool) (a' b' : Option Addr) (k' c' j' d' n' m' : Nat) (h' : Raw w a' k' c' n') (g' : Raw w b' j' d' m') (h0 : mkRat (sgn s' n') m' = 0) :
    Calls Tryz.prog 95 #[.agg #[.bool s, .slice a k c, .slice b j d], .agg #[.bool s', .slice a' k' c', .slice b' j' d']] w fun e w' => e = .returned (.tuple #[.agg #[.bool false, .slice none 0 0, .slice none 0 0], .bool false]) ∧ Ext w w' := by
  have hs : (mkRat (sgn s' n') m').num.sign = 0 := sign_zero_iff.2 h0
  clear h0
  go_enter Tryz.func95, Tryz.ntmps95
  go_wp2_with fail
  obtain ⟨W, hW, x0, Z0, A0, A1, A2⟩ := boxes3 w 55 [.bool s, .slice a k c, .slice b j d] 55 [.bool s', .slice a' k' c', .slice b' j' d'] 55 [.bool false, .slice none 0 0, .slice none 0 0]
  rw [← hW]
  clear hW
  obtain ⟨k0_0, k0_1, k0_2, f0_0, f0_1, f0_2⟩ := box3 A0 (Ext.refl _)
  have z0 := (A0.ext (Ext.refl _)).lt
  obtain ⟨k1_0, k1_1, k1_2, f1_0, f1_1, f1_2⟩ := box3 A1 (Ext.refl _)
  have z1 := (A1.ext (Ext.refl _)).lt
  obtain ⟨k2_0, k2_1, k2_2, f2_0, f2_1, f2_2⟩ := box3 A2 (Ext.refl _)
  have z2 := (A2.ext (Ext.refl _)).lt
  refine (rat_Sign _ _ _ _ _ _ _ _ _ _ (h'.ext x0) (g'.ext x0)).mono ?_
  rintro e w1 ⟨rfl, hx1⟩
  rw [hs]
  clear hs
  obtain ⟨k0_0, k0_1, k0_2, f0_0, f0_1, f0_2⟩ := box3 A0 hx1
  have z0 := (A0.ext hx1).lt
  obtain ⟨k1_0, k1_1, k1_2, f1_0, f1_1, f1_2⟩ := box3 A1 hx1
  have z1 := (A1.ext hx1).lt
  obtain ⟨k2_0, k2_1, k2_2, f2_0, f2_1, f2_2⟩ := box3 A2 hx1
  have z2 := (A2.ext hx1).lt
  go_wp2
  exact bodyPost_ret (by simp [results, Tryz.results95, go_sem, *]) rfl ⟨rfl, Ext.set3 (x0.trans hx1) (by omega) _ _ _⟩

set_option maxHeartbeats 1000000 in
/-- rational.Div. -/
theorem rat_Div (w : World) (s : Bool) (a b : Option Addr) (k c j d n m : Nat) (h : Raw w a k c n) (g : Raw w b j d m) (s' : Bool) (a' b' : Option Addr) (k' c' j' d' n' m' : Nat) (h' : Raw w a' k' c' n') (g' : Raw w b' j' d' m') (b1 : len n < 100000000) (b2 : len m < 100000000) (b1' : len n' < 100000000) (b2' : len m' < 100000000) (h0 : ¬ mkRat (sgn s' n') m' = 0) :
    Calls Tryz.prog 95 #[.agg #[.bool s, .slice a k c, .slice b j d], .agg #[.bool s', .slice a' k' c', .slice b' j' d']] w (NewRatOk (mkRat (sgn s n) m / mkRat (sgn s' n') m') w) := by
  have hs : ((mkRat (sgn s' n') m').num.sign == 0) = false := by rw [beq_eq_false_iff_ne]; exact fun h => h0 (sign_zero_iff.1 h)
  clear h0
  go_enter Tryz.func95, Tryz.ntmps95
  go_wp2_with fail
  obtain ⟨W, hW, x0, Z0, A0, A1, A2⟩ := boxes3 w 55 [.bool s, .slice a k c, .slice b j d] 55 [.bool s', .slice a' k' c', .slice b' j' d'] 55 [.bool false, .slice none 0 0, .slice none 0 0]
  rw [← hW]
  clear hW
  obtain ⟨k0_0, k0_1, k0_2, f0_0, f0_1, f0_2⟩ := box3 A0 (Ext.refl _)
  have z0 := (A0.ext (Ext.refl _)).lt
  obtain ⟨k1_0, k1_1, k1_2, f1_0, f1_1, f1_2⟩ := box3 A1 (Ext.refl _)
  have z1 := (A1.ext (Ext.refl _)).lt
  obtain ⟨k2_0, k2_1, k2_2, f2_0, f2_1, f2_2⟩ := box3 A2 (Ext.refl _)
  have z2 := (A2.ext (Ext.refl _)).lt
  refine (rat_Sign _ _ _ _ _ _ _ _ _ _ (h'.ext x0) (g'.ext x0)).mono ?_
  rintro e w1 ⟨rfl, hx1⟩
  obtain ⟨k0_0, k0_1, k0_2, f0_0, f0_1, f0_2⟩ := box3 A0 hx1
  have z0 := (A0.ext hx1).lt
  obtain ⟨k1_0, k1_1, k1_2, f1_0, f1_1, f1_2⟩ := box3 A1 hx1
  have z1 := (A1.ext hx1).lt
  obtain ⟨k2_0, k2_1, k2_2, f2_0, f2_1, f2_2⟩ := box3 A2 hx1
  have z2 := (A2.ext hx1).lt
  go_wp2_with fail
  refine (rat_Mul _ _ _ _ _ _ _ _ _ _ ((h.ext x0).ext hx1) ((g.ext x0).ext hx1) _ _ _ _ _ _ _ _ _ ((g'.ext x0).ext hx1) ((h'.ext x0).ext hx1) b1 b2 b2' b1').mono ?_
  intro e wz hN
  rw [mkRat_inv s' n' m', ← Rat.div_def] at hN
  obtain ⟨az, cz, az', cz', rfl, hrz, hfz, hrz', hfz', hxz⟩ := id hN
  obtain ⟨k0_0, k0_1, k0_2, f0_0, f0_1, f0_2⟩ := box3 A0 (hx1.trans hxz)
  have z0 := (A0.ext (hx1.trans hxz)).lt
  obtain ⟨k1_0, k1_1, k1_2, f1_0, f1_1, f1_2⟩ := box3 A1 (hx1.trans hxz)
  have z1 := (A1.ext (hx1.trans hxz)).lt
  obtain ⟨k2_0, k2_1, k2_2, f2_0, f2_1, f2_2⟩ := box3 A2 (hx1.trans hxz)
  have z2 := (A2.ext (hx1.trans hxz)).lt
  go_wp2
  obtain ⟨au, cu, au', cu', he, hr, hf, hr', hf', hx⟩ := NewRat.touch (hN.base hx1) x0 (Touch.three (b := w.heap.size + 2) wz (by omega) (by rw [Z0.out]; omega) (.bool (decide ((mkRat (sgn s n) m / mkRat (sgn s' n') m').num < 0))) (.slice az (len (mkRat (sgn s n) m / mkRat (sgn s' n') m').num.natAbs) cz) (.slice az' (len (mkRat (sgn s n) m / mkRat (sgn s' n') m').den) cz'))
  cases he
  exact bodyPost_ret (v := .tuple #[.agg #[.bool (decide ((mkRat (sgn s n) m / mkRat (sgn s' n') m').num < 0)), .slice az (len (mkRat (sgn s n) m / mkRat (sgn s' n') m').num.natAbs) cz, .slice az' (len (mkRat (sgn s n) m / mkRat (sgn s' n') m').den) cz'], .bool true]) (by simp [results, Tryz.results95, go_sem, *]) rfl ⟨az, cz, az', cz', rfl, hr, hf, hr', hf', hx⟩

theorem Ext.of_touch {w w3 w4 : World} {hi : Nat} (h : Ext w w3) (t : Touch w.heap.size hi w3 w4) : Ext w w4 :=
  ⟨⟨t.os.trans h.below.os, t.tape.trans h.below.tape, t.output.trans h.below.output, by rw [t.size]; exact h.below.size, fun k hk => (t.block k (Or.inl hk)).trans (h.below.block k hk)⟩, Nat.le_trans h.drawn t.drawn⟩

theorem floor_mkRat (x : Int) (y : Nat) (h : 0 < y) : (mkRat x y).floor = x / y := by
  obtain ⟨g, g0, e1, e2⟩ := mkRat_scaled x y h
  generalize mkRat x y = p at *
  subst e1 e2
  rw [Rat.floor_def, Int.natCast_mul, Int.mul_ediv_mul_of_pos_left _ _ (by omega)]

/-- What rational.floor returns. -/
def FloorOf (q : Rat) (w : World) (e : Ending) (w' : World) : Prop := ∃ (r : Int) (a c : _) (a1 : Option Addr) (c1 : Nat) (a2 : Option Addr) (k2 c2 : Nat), e = .returned (.tuple #[.agg #[.bool (decide (q.floor < 0)), .slice a (len q.floor.natAbs) c], .agg #[.bool (decide (r < 0)), .slice a1 (len r.natAbs) c1], .agg #[.bool false, .slice a2 k2 c2]]) ∧
  Raw w' a (len q.floor.natAbs) c q.floor.natAbs ∧ Fr w.heap.size a ∧ Raw w' a1 (len r.natAbs) c1 r.natAbs ∧ Fr w.heap.size a1 ∧ (r = 0 ↔ (q.floor : Rat) = q) ∧ Ext w w'

set_option maxHeartbeats 400000 in
/-- rational.parts where the denominator is not 0. -/
theorem rat_parts_pos (w : World) (s : Bool) (a b : Option Addr) (k c j d n m : Nat) (h : Raw w a k c n) (g : Raw w b j d m) (hm : 0 < m) :
    Calls Tryz.prog 132 #[.agg #[.bool s, .slice a k c, .slice b j d]] w fun e w' => e = .returned (.tuple #[.agg #[.bool s, .slice a k c], .slice b j d]) ∧ Ext w w' := by
  have hc : cmpN m 0 = 1 := by unfold cmpN; rw [if_neg (by omega), if_neg (by omega)]
  have HC := Lib.hid hc; clear hc
  go_enter Tryz.func132, Tryz.ntmps132
  go_wp2_with fail
  obtain ⟨W, hW, x0, Z0, A0, A1⟩ := boxes2 w 55 [.bool s, .slice a k c, .slice b j d] 53 [.bool false, .slice none 0 0]
  rw [← hW]
  clear hW
  obtain ⟨k0_0, k0_1, k0_2, f0_0, f0_1, f0_2⟩ := box3 A0 (Ext.refl _)
  have z0 := (A0.ext (Ext.refl _)).lt
  obtain ⟨k1_0, k1_1, f1_0, f1_1⟩ := box2 A1 (Ext.refl _)
  have z1 := (A1.ext (Ext.refl _)).lt
  refine (nat_Compare _ _ _ _ _ _ _ _ _ (g.ext x0) (Raw.nil _)).mono ?_
  rintro e w1 ⟨rfl, hq1⟩
  rw [HC.out]
  obtain ⟨k0_0, k0_1, k0_2, f0_0, f0_1, f0_2⟩ := box3 A0 hq1.ext
  have z0 := (A0.ext hq1.ext).lt
  obtain ⟨k1_0, k1_1, f1_0, f1_1⟩ := box2 A1 hq1.ext
  have z1 := (A1.ext hq1.ext).lt
  go_wp2
  go_region
  go_wp2
  exact bodyPost_ret (v := .tuple #[.agg #[.bool s, .slice a k c], .slice b j d]) (by simp [results, Tryz.results132, go_sem, *]) rfl ⟨rfl, (Ext.set2 (x0.trans hq1.ext) (by omega) _ _).drew⟩

set_option maxHeartbeats 400000 in
/-- rational.parts where the denominator is 0. -/
theorem rat_parts_zero (w : World) (s : Bool) (a b : Option Addr) (k c j d : Nat) (g : Raw w b j d 0) :
    Calls Tryz.prog 132 #[.agg #[.bool s, .slice a k c, .slice b j d]] w fun e w' => ∃ e1, e = .returned (.tuple #[.agg #[.bool false, .slice none 0 0], .slice e1 1 1]) ∧ Raw w' e1 1 1 1 ∧ Fr w.heap.size e1 ∧ Ext w w' := by
  have hc : cmpN 0 0 = 0 := rfl
  go_enter Tryz.func132, Tryz.ntmps132
  go_wp2_with fail
  obtain ⟨W, hW, x0, Z0, A0, A1⟩ := boxes2 w 55 [.bool s, .slice a k c, .slice b j d] 53 [.bool false, .slice none 0 0]
  rw [← hW]
  clear hW
  obtain ⟨k0_0, k0_1, k0_2, f0_0, f0_1, f0_2⟩ := box3 A0 (Ext.refl _)
  have z0 := (A0.ext (Ext.refl _)).lt
  obtain ⟨k1_0, k1_1, f1_0, f1_1⟩ := box2 A1 (Ext.refl _)
  have z1 := (A1.ext (Ext.refl _)).lt
  refine (nat_Compare _ _ _ _ _ _ _ _ _ (g.ext x0) (Raw.nil _)).mono ?_
  rintro e w1 ⟨rfl, hq1⟩
  rw [hc]
  obtain ⟨k0_0, k0_1, k0_2, f0_0, f0_1, f0_2⟩ := box3 A0 hq1.ext
  have z0 := (A0.ext hq1.ext).lt
  obtain ⟨k1_0, k1_1, f1_0, f1_1⟩ := box2 A1 hq1.ext
  have z1 := (A1.ext hq1.ext).lt
  go_wp2
  refine bodyPost_ret (v := .tuple #[.agg #[.bool false, .slice none 0 0], .slice (some ⟨w1.heap.size, 0, none⟩) 1 1]) (by simp [results, Tryz.results132, go_sem, *]) rfl ⟨some ⟨w1.heap.size, 0, none⟩, rfl, ?_, Fr.some (x0.trans hq1.ext).size, ?_⟩
  · have := raw_one ((w1.setCell ⟨w.heap.size + 1, 0, none⟩ (.bool false)).setCell ⟨w.heap.size + 1, 1, none⟩ (.slice none 0 0)); simpa using this
  · exact (Ext.set2 (x0.trans hq1.ext) (by omega) _ _).alloc _

/-- The rest of a division. -/
theorem rest_zero (x : Int) (y : Nat) (h : 0 < y) : x % (y : Int) = 0 ↔ (((mkRat x y).floor : Int) : Rat) = mkRat x y := by
  rw [floor_mkRat x y h]
  constructor
  · intro h0
    obtain ⟨z, rfl⟩ := Int.dvd_of_emod_eq_zero h0
    rw [Int.mul_ediv_cancel_left _ (by omega), Rat.mkRat_eq_div]
    rw [Rat.intCast_mul, Rat.intCast_natCast, Rat.mul_comm, Rat.mul_div_cancel (by intro h1; rw [Rat.natCast_eq_zero_iff] at h1; omega)]
  · intro h0
    rw [Rat.mkRat_eq_div] at h0
    have h1 : (((x / (y : Int)) : Int) : Rat) * (y : Rat) = (x : Rat) := by
      rw [h0, Rat.div_mul_cancel (by intro h1; rw [Rat.natCast_eq_zero_iff] at h1; omega)]
    rw [← Rat.intCast_natCast, ← Rat.intCast_mul, Rat.intCast_inj] at h1
    have := Int.emod_add_mul_ediv x y
    rw [Int.mul_comm] at h1
    omega

set_option maxHeartbeats 2000000 in
/-- rational.floor. -/
theorem rat_floor (w : World) (s : Bool) (a b : Option Addr) (k c j d n m : Nat) (h : Raw w a k c n) (g : Raw w b j d m) (b1 : len n < 100000000) (b2 : len m < 100000000) :
    Calls Tryz.prog 149 #[.agg #[.bool s, .slice a k c, .slice b j d]] w (FloorOf (mkRat (sgn s n) m) w) := by
  by_cases hm : 0 < m
  · skip
    go_enter Tryz.func149, Tryz.ntmps149
    go_wp2_with fail
    obtain ⟨W, hW, x0, Z0, A0, A1, A2, A3⟩ := boxes4 w 55 [.bool s, .slice a k c, .slice b j d] 53 [.bool false, .slice none 0 0] 53 [.bool false, .slice none 0 0] 53 [.bool false, .slice none 0 0]
    rw [← hW]
    clear hW
    obtain ⟨k0_0, k0_1, k0_2, f0_0, f0_1, f0_2⟩ := box3 A0 (Ext.refl _)
    have z0 := (A0.ext (Ext.refl _)).lt
    obtain ⟨k1_0, k1_1, f1_0, f1_1⟩ := box2 A1 (Ext.refl _)
    have z1 := (A1.ext (Ext.refl _)).lt
    obtain ⟨k2_0, k2_1, f2_0, f2_1⟩ := box2 A2 (Ext.refl _)
    have z2 := (A2.ext (Ext.refl _)).lt
    obtain ⟨k3_0, k3_1, f3_0, f3_1⟩ := box2 A3 (Ext.refl _)
    have z3 := (A3.ext (Ext.refl _)).lt
    refine (rat_parts_pos _ _ _ _ _ _ _ _ _ _ (h.ext x0) (g.ext x0) hm).mono ?_
    rintro e w1 ⟨rfl, hx1⟩
    obtain ⟨k0_0, k0_1, k0_2, f0_0, f0_1, f0_2⟩ := box3 A0 hx1
    have z0 := (A0.ext hx1).lt
    obtain ⟨k1_0, k1_1, f1_0, f1_1⟩ := box2 A1 hx1
    have z1 := (A1.ext hx1).lt
    obtain ⟨k2_0, k2_1, f2_0, f2_1⟩ := box2 A2 hx1
    have z2 := (A2.ext hx1).lt
    obtain ⟨k3_0, k3_1, f3_0, f3_1⟩ := box2 A3 hx1
    have z3 := (A3.ext hx1).lt
    go_wp2_with fail
    obtain ⟨w2, hw2⟩ : ∃ w2, w2 = ((w1.setCell ⟨w.heap.size + 1 + 1 + 1, 0, none⟩ (.bool false)).setCell ⟨w.heap.size + 1 + 1 + 1, 1, none⟩ (.slice b j d)).alloc (Obj.cells #[.bool s, .slice a k c] 53) := ⟨_, rfl⟩
    rw [← hw2]
    have E2 : Ext w w2 := by rw [hw2]; exact (Ext.set2 (x0.trans hx1) (by omega) _ _).alloc _
    have S2 : w2.heap.size = w1.heap.size + 1 := by rw [hw2]; simp
    have C1 : Arr w2 (w.heap.size + 1) 53 [.bool false, .slice none 0 0] := by rw [hw2]; exact (((A1.ext hx1).other _ _ (by simp <;> omega)).other _ _ (by simp <;> omega)).ext ((Ext.refl _).alloc _)
    have C2 : Arr w2 (w.heap.size + 2) 53 [.bool false, .slice none 0 0] := by rw [hw2]; exact (((A2.ext hx1).other _ _ (by simp <;> omega)).other _ _ (by simp <;> omega)).ext ((Ext.refl _).alloc _)
    have C3 : Arr w2 (w.heap.size + 3) 53 [.bool false, .slice b j d] := by rw [hw2]; exact (((A3.ext hx1).set 0 _).set 1 _).ext ((Ext.refl _).alloc _)
    have sz1 := hx1.size
    rw [Z0.out] at sz1
    clear hw2 k1_0 f1_0 k1_1 f1_1 k2_0 f2_0 k2_1 f2_1 k3_0 f3_0 k3_1 f3_1 k0_0 k0_1 k0_2 f0_0 f0_1 f0_2 z0 z1 z2 z3
    refine (int_DivMod _ _ _ _ _ _ _ _ _ _ _ (h.ext E2) (g.ext E2) hm (by omega)).mono ?_
    rintro e w3 ⟨a3, c3, a4, c4, rfl, hr3, hf3, hr4, hf4, hx3⟩
    obtain ⟨k1_0, k1_1, f1_0, f1_1⟩ := box2 C1 hx3
    have z1 := (C1.ext hx3).lt
    obtain ⟨k2_0, k2_1, f2_0, f2_1⟩ := box2 C2 hx3
    have z2 := (C2.ext hx3).lt
    obtain ⟨k3_0, k3_1, f3_0, f3_1⟩ := box2 C3 hx3
    have z3 := (C3.ext hx3).lt
    generalize hX : sgn s n / sgn false m = X at *
    generalize hY : sgn s n % sgn false m = Y at *
    have HX := Lib.hid hX; have HY := Lib.hid hY; clear hX hY
    go_wp2
    obtain ⟨w4, hw4⟩ : ∃ w4, w4 = ((((w3.setCell ⟨w.heap.size + 1, 0, none⟩ (.bool (decide (X < 0)))).setCell ⟨w.heap.size + 1, 1, none⟩ (.slice a3 (len X.natAbs) c3)).setCell ⟨w.heap.size + 1 + 1, 0, none⟩ (.bool (decide (Y < 0)))).setCell ⟨w.heap.size + 1 + 1, 1, none⟩ (.slice a4 (len Y.natAbs) c4)) := ⟨_, rfl⟩
    rw [← hw4]
    have T4 : Touch w.heap.size W.heap.size w3 w4 := by rw [hw4]; exact (Touch.two _ (by omega) (by rw [Z0.out]; omega) _ _).trans (Touch.two _ (by omega) (by rw [Z0.out]; omega) _ _)
    have D1 : Arr w4 (w.heap.size + 1) 53 [.bool (decide (X < 0)), .slice a3 (len X.natAbs) c3] := by rw [hw4]; exact ((((C1.ext hx3).set 0 _).set 1 _).other _ _ (by simp <;> omega)).other _ _ (by simp <;> omega)
    have D2 : Arr w4 (w.heap.size + 2) 53 [.bool (decide (Y < 0)), .slice a4 (len Y.natAbs) c4] := by rw [hw4]; exact ((((C2.ext hx3).other _ _ (by simp <;> omega)).other _ _ (by simp <;> omega)).set 0 _).set 1 _
    have D3 : Arr w4 (w.heap.size + 3) 53 [.bool false, .slice b j d] := by rw [hw4]; exact (((((C3.ext hx3).other _ _ (by simp <;> omega)).other _ _ (by simp <;> omega))).other _ _ (by simp <;> omega)).other _ _ (by simp <;> omega)
    clear hw4 k1_0 f1_0 k1_1 f1_1 k2_0 f2_0 k2_1 f2_1 k3_0 f3_0 k3_1 f3_1 z1 z2 z3
    obtain ⟨k1_0, k1_1, f1_0, f1_1⟩ := box2 D1 (Ext.refl _)
    have z1 := D1.lt
    obtain ⟨k2_0, k2_1, f2_0, f2_1⟩ := box2 D2 (Ext.refl _)
    have z2 := D2.lt
    obtain ⟨k3_0, k3_1, f3_0, f3_1⟩ := box2 D3 (Ext.refl _)
    have z3 := D3.lt
    go_region
    go_wp2
    obtain ⟨w5, hw5⟩ : ∃ w5, w5 = ((((((w4.setCell ⟨w.heap.size + 1, 0, none⟩ (.bool (decide (X < 0)))).setCell ⟨w.heap.size + 1, 1, none⟩ (.slice a3 (len X.natAbs) c3)).setCell ⟨w.heap.size + 1 + 1, 0, none⟩ (.bool (decide (Y < 0)))).setCell ⟨w.heap.size + 1 + 1, 1, none⟩ (.slice a4 (len Y.natAbs) c4)).setCell ⟨w.heap.size + 1 + 1 + 1, 0, none⟩ (.bool false)).setCell ⟨w.heap.size + 1 + 1 + 1, 1, none⟩ (.slice b j d)).drew := ⟨_, rfl⟩
    rw [← hw5]
    have T5 : Touch w.heap.size W.heap.size w4 w5 := by rw [hw5]; exact (((Touch.two _ (by omega) (by rw [Z0.out]; omega) _ _).trans (Touch.two _ (by omega) (by rw [Z0.out]; omega) _ _)).trans (Touch.two _ (by omega) (by rw [Z0.out]; omega) _ _)).drew
    have dr : ∀ (wa : World), Ext wa wa.drew := fun wa => (Ext.refl wa).drew
    have E1 : Arr w5 (w.heap.size + 1) 53 [.bool (decide (X < 0)), .slice a3 (len X.natAbs) c3] := by rw [hw5]; exact (((((((D1.set 0 _).set 1 _).other _ _ (by simp <;> omega)).other _ _ (by simp <;> omega)).other _ _ (by simp <;> omega)).other _ _ (by simp <;> omega))).ext (dr _)
    have E2' : Arr w5 (w.heap.size + 2) 53 [.bool (decide (Y < 0)), .slice a4 (len Y.natAbs) c4] := by rw [hw5]; exact ((((((D2.other _ _ (by simp <;> omega)).other _ _ (by simp <;> omega)).set 0 _).set 1 _).other _ _ (by simp <;> omega)).other _ _ (by simp <;> omega)).ext (dr _)
    have E3 : Arr w5 (w.heap.size + 3) 53 [.bool false, .slice b j d] := by rw [hw5]; exact ((((((D3.other _ _ (by simp <;> omega)).other _ _ (by simp <;> omega)).other _ _ (by simp <;> omega)).other _ _ (by simp <;> omega)).set 0 _).set 1 _).ext (dr _)
    clear hw5 k1_0 f1_0 k1_1 f1_1 k2_0 f2_0 k2_1 f2_1 k3_0 f3_0 k3_1 f3_1 z1 z2 z3
    obtain ⟨k1_0, k1_1, f1_0, f1_1⟩ := box2 E1 (Ext.refl _)
    obtain ⟨k2_0, k2_1, f2_0, f2_1⟩ := box2 E2' (Ext.refl _)
    obtain ⟨k3_0, k3_1, f3_0, f3_1⟩ := box2 E3 (Ext.refl _)
    have F3 : Fr W.heap.size a3 := hf3.mono (by rw [Z0.out]; omega)
    have F4 : Fr W.heap.size a4 := hf4.mono (by rw [Z0.out]; omega)
    have fin : ∀ w4, Touch w.heap.size W.heap.size w3 w4 → FloorOf (mkRat (sgn s n) m) w (.returned (.tuple #[.agg #[.bool (decide (X < 0)), .slice a3 (len X.natAbs) c3], .agg #[.bool (decide (Y < 0)), .slice a4 (len Y.natAbs) c4], .agg #[.bool false, .slice b j d]])) w4 := by
      intro w4 t4
      have ef1 : (mkRat (sgn s n) m).floor = X := by rw [floor_mkRat _ _ hm, ← HX.out]; rfl
      have e2 := rest_zero (sgn s n) m hm
      have e3 : sgn s n % (m : Int) = Y := HY.out
      rw [e3] at e2
      refine ⟨Y, a3, c3, a4, c4, b, j, d, by rw [ef1], by rw [ef1]; exact hr3.touch t4 F3.out, F3.mono x0.size, hr4.touch t4 F4.out, F4.mono x0.size, e2, (E2.trans hx3).of_touch t4⟩
    exact bodyPost_ret (by simp [results, Tryz.results149, go_sem, k1_0, k1_1, k2_0, k2_1, k3_0, k3_1]) rfl (fin _ (T4.trans T5))
  · obtain rfl : m = 0 := by omega
    go_enter Tryz.func149, Tryz.ntmps149
    go_wp2_with fail
    obtain ⟨W, hW, x0, Z0, A0, A1, A2, A3⟩ := boxes4 w 55 [.bool s, .slice a k c, .slice b j d] 53 [.bool false, .slice none 0 0] 53 [.bool false, .slice none 0 0] 53 [.bool false, .slice none 0 0]
    rw [← hW]
    clear hW
    obtain ⟨k0_0, k0_1, k0_2, f0_0, f0_1, f0_2⟩ := box3 A0 (Ext.refl _)
    have z0 := (A0.ext (Ext.refl _)).lt
    obtain ⟨k1_0, k1_1, f1_0, f1_1⟩ := box2 A1 (Ext.refl _)
    have z1 := (A1.ext (Ext.refl _)).lt
    obtain ⟨k2_0, k2_1, f2_0, f2_1⟩ := box2 A2 (Ext.refl _)
    have z2 := (A2.ext (Ext.refl _)).lt
    obtain ⟨k3_0, k3_1, f3_0, f3_1⟩ := box2 A3 (Ext.refl _)
    have z3 := (A3.ext (Ext.refl _)).lt
    refine (rat_parts_zero _ _ _ _ _ _ _ _ (g.ext x0)).mono ?_
    rintro e w1 ⟨e1, rfl, hre, hfe, hx1⟩
    obtain ⟨k0_0, k0_1, k0_2, f0_0, f0_1, f0_2⟩ := box3 A0 hx1
    have z0 := (A0.ext hx1).lt
    obtain ⟨k1_0, k1_1, f1_0, f1_1⟩ := box2 A1 hx1
    have z1 := (A1.ext hx1).lt
    obtain ⟨k2_0, k2_1, f2_0, f2_1⟩ := box2 A2 hx1
    have z2 := (A2.ext hx1).lt
    obtain ⟨k3_0, k3_1, f3_0, f3_1⟩ := box2 A3 hx1
    have z3 := (A3.ext hx1).lt
    go_wp2_with fail
    obtain ⟨w2, hw2⟩ : ∃ w2, w2 = ((w1.setCell ⟨w.heap.size + 1 + 1 + 1, 0, none⟩ (.bool false)).setCell ⟨w.heap.size + 1 + 1 + 1, 1, none⟩ (.slice e1 1 1)).alloc (Obj.cells #[.bool false, .slice none 0 0] 53) := ⟨_, rfl⟩
    rw [← hw2]
    have E2 : Ext w w2 := by rw [hw2]; exact (Ext.set2 (x0.trans hx1) (by omega) _ _).alloc _
    have S2 : w2.heap.size = w1.heap.size + 1 := by rw [hw2]; simp
    have C1 : Arr w2 (w.heap.size + 1) 53 [.bool false, .slice none 0 0] := by rw [hw2]; exact (((A1.ext hx1).other _ _ (by simp <;> omega)).other _ _ (by simp <;> omega)).ext ((Ext.refl _).alloc _)
    have C2 : Arr w2 (w.heap.size + 2) 53 [.bool false, .slice none 0 0] := by rw [hw2]; exact (((A2.ext hx1).other _ _ (by simp <;> omega)).other _ _ (by simp <;> omega)).ext ((Ext.refl _).alloc _)
    have C3 : Arr w2 (w.heap.size + 3) 53 [.bool false, .slice e1 1 1] := by rw [hw2]; exact (((A3.ext hx1).set 0 _).set 1 _).ext ((Ext.refl _).alloc _)
    have re2 : Raw w2 e1 1 1 1 := by rw [hw2]; exact (hre.touch (Touch.two (lo := w.heap.size) (hi := W.heap.size) _ (by omega) (by rw [Z0.out]; omega) _ _) hfe.out).ext ((Ext.refl _).alloc _)
    have sz1 := hx1.size
    rw [Z0.out] at sz1
    clear hw2 k1_0 f1_0 k1_1 f1_1 k2_0 f2_0 k2_1 f2_1 k3_0 f3_0 k3_1 f3_1 k0_0 k0_1 k0_2 f0_0 f0_1 f0_2 z0 z1 z2 z3
    refine (int_DivMod _ _ _ _ _ _ _ _ _ _ _ (Raw.nil _) re2 (by omega) (by rw [len_zero]; omega)).mono ?_
    rintro e w3 ⟨a3, c3, a4, c4, rfl, hr3, hf3, hr4, hf4, hx3⟩
    obtain ⟨k1_0, k1_1, f1_0, f1_1⟩ := box2 C1 hx3
    have z1 := (C1.ext hx3).lt
    obtain ⟨k2_0, k2_1, f2_0, f2_1⟩ := box2 C2 hx3
    have z2 := (C2.ext hx3).lt
    obtain ⟨k3_0, k3_1, f3_0, f3_1⟩ := box2 C3 hx3
    have z3 := (C3.ext hx3).lt
    generalize hX : sgn false 0 / sgn false 1 = X at *
    generalize hY : sgn false 0 % sgn false 1 = Y at *
    have HX := Lib.hid hX; have HY := Lib.hid hY; clear hX hY
    go_wp2
    obtain ⟨w4, hw4⟩ : ∃ w4, w4 = ((((w3.setCell ⟨w.heap.size + 1, 0, none⟩ (.bool (decide (X < 0)))).setCell ⟨w.heap.size + 1, 1, none⟩ (.slice a3 (len X.natAbs) c3)).setCell ⟨w.heap.size + 1 + 1, 0, none⟩ (.bool (decide (Y < 0)))).setCell ⟨w.heap.size + 1 + 1, 1, none⟩ (.slice a4 (len Y.natAbs) c4)) := ⟨_, rfl⟩
    rw [← hw4]
    have T4 : Touch w.heap.size W.heap.size w3 w4 := by rw [hw4]; exact (Touch.two _ (by omega) (by rw [Z0.out]; omega) _ _).trans (Touch.two _ (by omega) (by rw [Z0.out]; omega) _ _)
    have D1 : Arr w4 (w.heap.size + 1) 53 [.bool (decide (X < 0)), .slice a3 (len X.natAbs) c3] := by rw [hw4]; exact ((((C1.ext hx3).set 0 _).set 1 _).other _ _ (by simp <;> omega)).other _ _ (by simp <;> omega)
    have D2 : Arr w4 (w.heap.size + 2) 53 [.bool (decide (Y < 0)), .slice a4 (len Y.natAbs) c4] := by rw [hw4]; exact ((((C2.ext hx3).other _ _ (by simp <;> omega)).other _ _ (by simp <;> omega)).set 0 _).set 1 _
    have D3 : Arr w4 (w.heap.size + 3) 53 [.bool false, .slice e1 1 1] := by rw [hw4]; exact (((((C3.ext hx3).other _ _ (by simp <;> omega)).other _ _ (by simp <;> omega))).other _ _ (by simp <;> omega)).other _ _ (by simp <;> omega)
    clear hw4 k1_0 f1_0 k1_1 f1_1 k2_0 f2_0 k2_1 f2_1 k3_0 f3_0 k3_1 f3_1 z1 z2 z3
    obtain ⟨k1_0, k1_1, f1_0, f1_1⟩ := box2 D1 (Ext.refl _)
    have z1 := D1.lt
    obtain ⟨k2_0, k2_1, f2_0, f2_1⟩ := box2 D2 (Ext.refl _)
    have z2 := D2.lt
    obtain ⟨k3_0, k3_1, f3_0, f3_1⟩ := box2 D3 (Ext.refl _)
    have z3 := D3.lt
    go_region
    go_wp2
    obtain ⟨w5, hw5⟩ : ∃ w5, w5 = ((((((w4.setCell ⟨w.heap.size + 1, 0, none⟩ (.bool (decide (X < 0)))).setCell ⟨w.heap.size + 1, 1, none⟩ (.slice a3 (len X.natAbs) c3)).setCell ⟨w.heap.size + 1 + 1, 0, none⟩ (.bool (decide (Y < 0)))).setCell ⟨w.heap.size + 1 + 1, 1, none⟩ (.slice a4 (len Y.natAbs) c4)).setCell ⟨w.heap.size + 1 + 1 + 1, 0, none⟩ (.bool false)).setCell ⟨w.heap.size + 1 + 1 + 1, 1, none⟩ (.slice e1 1 1)).drew := ⟨_, rfl⟩
    rw [← hw5]
    have T5 : Touch w.heap.size W.heap.size w4 w5 := by rw [hw5]; exact (((Touch.two _ (by omega) (by rw [Z0.out]; omega) _ _).trans (Touch.two _ (by omega) (by rw [Z0.out]; omega) _ _)).trans (Touch.two _ (by omega) (by rw [Z0.out]; omega) _ _)).drew
    have dr : ∀ (wa : World), Ext wa wa.drew := fun wa => (Ext.refl wa).drew
    have E1 : Arr w5 (w.heap.size + 1) 53 [.bool (decide (X < 0)), .slice a3 (len X.natAbs) c3] := by rw [hw5]; exact (((((((D1.set 0 _).set 1 _).other _ _ (by simp <;> omega)).other _ _ (by simp <;> omega)).other _ _ (by simp <;> omega)).other _ _ (by simp <;> omega))).ext (dr _)
    have E2' : Arr w5 (w.heap.size + 2) 53 [.bool (decide (Y < 0)), .slice a4 (len Y.natAbs) c4] := by rw [hw5]; exact ((((((D2.other _ _ (by simp <;> omega)).other _ _ (by simp <;> omega)).set 0 _).set 1 _).other _ _ (by simp <;> omega)).other _ _ (by simp <;> omega)).ext (dr _)
    have E3 : Arr w5 (w.heap.size + 3) 53 [.bool false, .slice e1 1 1] := by rw [hw5]; exact ((((((D3.other _ _ (by simp <;> omega)).other _ _ (by simp <;> omega)).other _ _ (by simp <;> omega)).other _ _ (by simp <;> omega)).set 0 _).set 1 _).ext (dr _)
    clear hw5 k1_0 f1_0 k1_1 f1_1 k2_0 f2_0 k2_1 f2_1 k3_0 f3_0 k3_1 f3_1 z1 z2 z3
    obtain ⟨k1_0, k1_1, f1_0, f1_1⟩ := box2 E1 (Ext.refl _)
    obtain ⟨k2_0, k2_1, f2_0, f2_1⟩ := box2 E2' (Ext.refl _)
    obtain ⟨k3_0, k3_1, f3_0, f3_1⟩ := box2 E3 (Ext.refl _)
    have F3 : Fr W.heap.size a3 := hf3.mono (by rw [Z0.out]; omega)
    have F4 : Fr W.heap.size a4 := hf4.mono (by rw [Z0.out]; omega)
    have fin : ∀ w4, Touch w.heap.size W.heap.size w3 w4 → FloorOf (mkRat (sgn s n) 0) w (.returned (.tuple #[.agg #[.bool (decide (X < 0)), .slice a3 (len X.natAbs) c3], .agg #[.bool (decide (Y < 0)), .slice a4 (len Y.natAbs) c4], .agg #[.bool false, .slice e1 1 1]])) w4 := by
      intro w4 t4
      have ef1 : (mkRat (sgn s n) 0).floor = X := by rw [Rat.mkRat_zero, ← HX.out]; rfl
      have e2 : Y = 0 ↔ (((mkRat (sgn s n) 0).floor : Int) : Rat) = mkRat (sgn s n) 0 := by rw [Rat.mkRat_zero, ← HY.out]; constructor <;> (intro _; rfl)
      refine ⟨Y, a3, c3, a4, c4, e1, 1, 1, by rw [ef1], by rw [ef1]; exact hr3.touch t4 F3.out, F3.mono x0.size, hr4.touch t4 F4.out, F4.mono x0.size, e2, (E2.trans hx3).of_touch t4⟩
    exact bodyPost_ret (by simp [results, Tryz.results149, go_sem, k1_0, k1_1, k2_0, k2_1, k3_0, k3_1]) rfl (fin _ (T4.trans T5))

set_option maxHeartbeats 1000000 in
/-- rational.Floor. -/
theorem rat_Floor (w : World) (s : Bool) (a b : Option Addr) (k c j d n m : Nat) (h : Raw w a k c n) (g : Raw w b j d m) (b1 : len n < 100000000) (b2 : len m < 100000000) :
    Calls Tryz.prog 84 #[.agg #[.bool s, .slice a k c, .slice b j d]] w (NewInt (mkRat (sgn s n) m).floor w) := by
  go_enter Tryz.func84, Tryz.ntmps84
  go_wp2_with fail
  obtain ⟨W, hW, x0, Z0, A0, A1⟩ := boxes2 w 55 [.bool s, .slice a k c, .slice b j d] 53 [.bool false, .slice none 0 0]
  rw [← hW]
  clear hW
  obtain ⟨k0_0, k0_1, k0_2, f0_0, f0_1, f0_2⟩ := box3 A0 (Ext.refl _)
  have z0 := (A0.ext (Ext.refl _)).lt
  obtain ⟨k1_0, k1_1, f1_0, f1_1⟩ := box2 A1 (Ext.refl _)
  have z1 := (A1.ext (Ext.refl _)).lt
  refine (rat_floor _ _ _ _ _ _ _ _ _ _ (h.ext x0) (g.ext x0) b1 b2).mono ?_
  rintro e w1 ⟨r, a1, c1, a2, c2, a3, k3, c3, rfl, hr1, hf1, hr2, hf2, _, hx1⟩
  obtain ⟨k0_0, k0_1, k0_2, f0_0, f0_1, f0_2⟩ := box3 A0 hx1
  have z0 := (A0.ext hx1).lt
  obtain ⟨k1_0, k1_1, f1_0, f1_1⟩ := box2 A1 hx1
  have z1 := (A1.ext hx1).lt
  go_wp2
  have T : Touch w.heap.size W.heap.size w1 ((w1.setCell ⟨w.heap.size + 1, 0, none⟩ (.bool (decide ((mkRat (sgn s n) m).floor < 0)))).setCell ⟨w.heap.size + 1, 1, none⟩ (.slice a1 (len (mkRat (sgn s n) m).floor.natAbs) c1)) := Touch.two _ (by omega) (by rw [Z0.out]; omega) _ _
  refine bodyPost_ret (v := .agg #[.bool (decide ((mkRat (sgn s n) m).floor < 0)), .slice a1 (len (mkRat (sgn s n) m).floor.natAbs) c1]) (by simp [results, Tryz.results84, go_sem, *]) rfl ?_
  exact ⟨a1, c1, rfl, (hr1.touch T hf1.out).ext ((((Ext.refl _).alloc _).alloc _).alloc _), hf1.mono x0.size, (((x0.touch hx1 T).alloc _).alloc _).alloc _⟩

end Go.Proofs.YtgihpfkjpfanmaaGreat

/- Sizes of rational numbers; slices of rational numbers in memory. -/
namespace Go.Proofs.YtgihpfkjpfanmaaGreat
open Go.RowKit

/-- The greater number of limbs of numerator and denominator. -/
def rsz (q : Rat) : Nat := max (len q.num.natAbs) (len q.den)
theorem rsz_num (q : Rat) : len q.num.natAbs ≤ rsz q := Nat.le_max_left _ _
theorem rsz_den (q : Rat) : len q.den ≤ rsz q := Nat.le_max_right _ _
theorem rsz_mkRat (x : Int) (y : Nat) : rsz (mkRat x y) ≤ max (max (len x.natAbs) (len y)) 1 := by
  unfold rsz
  by_cases h : 0 < y
  · rw [mkRat_num_natAbs _ _ h, mkRat_den' _ _ h]
    have h1 := len_mono (Nat.div_le_self x.natAbs (Nat.gcd y x.natAbs))
    have h2 := len_mono (Nat.div_le_self y (Nat.gcd y x.natAbs))
    omega
  · obtain rfl : y = 0 := by omega
    rw [Rat.mkRat_zero]; show max (len 0) (len 1) ≤ _; rw [len_zero, len1]; omega
theorem rsz_neg (q : Rat) : rsz (-q) = rsz q := by unfold rsz; rw [Rat.neg_num, Rat.neg_den, Int.natAbs_neg]
theorem rsz_add (p q : Rat) : rsz (p + q) ≤ rsz p + rsz q + 1 := by
  rw [Rat.add_def']
  refine Nat.le_trans (rsz_mkRat _ _) ?_
  have h1 := len_intAdd (p.num * q.den) (q.num * p.den)
  rw [Int.natAbs_mul, Int.natAbs_mul, Int.natAbs_natCast, Int.natAbs_natCast] at h1
  have h2 := len_mul p.num.natAbs q.den
  have h3 := len_mul q.num.natAbs p.den
  have h4 := len_mul p.den q.den
  have a1 := rsz_num p; have a2 := rsz_den p; have a3 := rsz_num q; have a4 := rsz_den q
  omega
theorem rsz_sub (p q : Rat) : rsz (p - q) ≤ rsz p + rsz q + 1 := by
  rw [Rat.sub_eq_add_neg]; have := rsz_add p (-q); rw [rsz_neg] at this; exact this
theorem rsz_mul (p q : Rat) : rsz (p * q) ≤ rsz p + rsz q + 1 := by
  rw [Rat.mul_def']
  refine Nat.le_trans (rsz_mkRat _ _) ?_
  rw [Int.natAbs_mul]
  have h2 := len_mul p.num.natAbs q.num.natAbs
  have h4 := len_mul p.den q.den
  have a1 := rsz_num p; have a2 := rsz_den p; have a3 := rsz_num q; have a4 := rsz_den q
  omega
theorem rsz_inv (q : Rat) : rsz q⁻¹ ≤ rsz q + 1 := by
  unfold rsz
  rw [Rat.num_inv, Rat.den_inv, Int.natAbs_mul, Int.natAbs_natCast]
  have h1 : q.num.sign.natAbs ≤ 1 := by
    rcases Int.lt_trichotomy q.num 0 with h | h | h
    · rw [Int.sign_eq_neg_one_of_neg h]; decide
    · rw [h]; decide
    · rw [Int.sign_eq_one_of_pos h]; decide
  have h2 : len (q.num.sign.natAbs * q.den) ≤ len q.den := len_mono (by
    have := Nat.mul_le_mul_right q.den h1; omega)
  split
  · rw [len1]; omega
  · omega
theorem rsz_div (p q : Rat) : rsz (p / q) ≤ rsz p + rsz q + 2 := by
  rw [Rat.div_def]; have h1 := rsz_mul p q⁻¹; have h2 := rsz_inv q; omega
theorem rsz_int (z : Int) : rsz (z : Rat) = max (len z.natAbs) 1 := by
  unfold rsz; rw [Rat.num_intCast, Rat.den_intCast, len1]
theorem len_natAbs_i64 {z : Int} (h1 : -9223372036854775808 ≤ z) (h2 : z ≤ 9223372036854775807) : len z.natAbs ≤ 2 := len_le_two.2 (by omega)

/-- A rational number as it lies in three cells. -/
structure RVal where
  s : Bool
  a : Option Addr
  k : Nat
  c : Nat
  b : Option Addr
  j : Nat
  d : Nat
def RVal.cells (r : RVal) : List Value := [.bool r.s, .slice r.a r.k r.c, .slice r.b r.j r.d]

/-- The cells r hold the rational number q; numerator and denominator have at most L limbs. -/
def IsRat (w : World) (r : RVal) (q : Rat) (L : Nat) : Prop := ∃ n m, Raw w r.a r.k r.c n ∧ Raw w r.b r.j r.d m ∧ q = mkRat (sgn r.s n) m ∧ len n ≤ L ∧ len m ≤ L

theorem IsRat.ext {w w' : World} {r : RVal} {q : Rat} {L : Nat} (h : IsRat w r q L) (e : Ext w w') : IsRat w' r q L := by
  obtain ⟨n, m, h1, h2, h3⟩ := h; exact ⟨n, m, h1.ext e, h2.ext e, h3⟩
theorem IsRat.mono {w : World} {r : RVal} {q : Rat} {L L' : Nat} (h : IsRat w r q L) (hl : L ≤ L') : IsRat w r q L' := by
  obtain ⟨n, m, h1, h2, h3, h4, h5⟩ := h; exact ⟨n, m, h1, h2, h3, by omega, by omega⟩
theorem IsRat.rsz {w : World} {r : RVal} {q : Rat} {L : Nat} (h : IsRat w r q L) : rsz q ≤ max L 1 := by
  obtain ⟨n, m, h1, h2, rfl, h4, h5⟩ := h
  have := rsz_mkRat (sgn r.s n) m
  rw [sgn_natAbs] at this
  omega

/-- What NewRat says of the cells. -/
theorem NewRat.isRat {q : Rat} {w w' : World} {e : Ending} (h : NewRat q w e w') : ∃ r : RVal, e = .returned (.agg #[.bool r.s, .slice r.a r.k r.c, .slice r.b r.j r.d]) ∧ IsRat w' r q (Go.Proofs.YtgihpfkjpfanmaaGreat.rsz q) ∧ Fr w.heap.size r.a ∧ Fr w.heap.size r.b ∧ Ext w w' := by
  obtain ⟨a, c, a', c', he, hr, hf, hr', hf', hx⟩ := h
  refine ⟨⟨decide (q.num < 0), a, len q.num.natAbs, c, a', len q.den, c'⟩, he, ⟨_, _, hr, hr', ?_, rsz_num q, rsz_den q⟩, hf, hf', hx⟩
  rw [sgn_num, Rat.mkRat_self]

/-- The cells r hold the rational number q in canonical form, in blocks from B on. -/
structure IsCan (w : World) (r : RVal) (q : Rat) (B : Nat) : Prop where
  s : r.s = decide (q.num < 0)
  k : r.k = len q.num.natAbs
  j : r.j = len q.den
  num : Raw w r.a r.k r.c q.num.natAbs
  den : Raw w r.b r.j r.d q.den
  fa : Fr B r.a
  fb : Fr B r.b
theorem IsCan.isRat {w : World} {r : RVal} {q : Rat} {B : Nat} (h : IsCan w r q B) : IsRat w r q (Go.Proofs.YtgihpfkjpfanmaaGreat.rsz q) :=
  ⟨_, _, h.num, h.den, by rw [h.s, sgn_num, Rat.mkRat_self], rsz_num q, rsz_den q⟩
theorem IsCan.ext {w w' : World} {r : RVal} {q : Rat} {B : Nat} (h : IsCan w r q B) (e : Ext w w') : IsCan w' r q B := ⟨h.s, h.k, h.j, h.num.ext e, h.den.ext e, h.fa, h.fb⟩
theorem IsCan.mono {w : World} {r : RVal} {q : Rat} {B B' : Nat} (h : IsCan w r q B) (e : B' ≤ B) : IsCan w r q B' := ⟨h.s, h.k, h.j, h.num, h.den, h.fa.mono e, h.fb.mono e⟩
theorem IsCan.setCell {w : World} {r : RVal} {q : Rat} {B : Nat} (h : IsCan w r q B) (p : Addr) (v : Value) (hp : p.block < B) : IsCan (w.setCell p v) r q B :=
  ⟨h.s, h.k, h.j, h.num.setCell _ _ (h.fa.ne hp), h.den.setCell _ _ (h.fb.ne hp), h.fa, h.fb⟩
theorem NewRat.isCan {q : Rat} {w w' : World} {e : Ending} (h : NewRat q w e w') : ∃ r : RVal, e = .returned (.agg #[.bool r.s, .slice r.a r.k r.c, .slice r.b r.j r.d]) ∧ IsCan w' r q w.heap.size ∧ Ext w w' := by
  obtain ⟨a, c, a', c', he, hr, hf, hr', hf', hx⟩ := h
  exact ⟨⟨decide (q.num < 0), a, len q.num.natAbs, c, a', len q.den, c'⟩, he, ⟨rfl, rfl, rfl, hr, hr', hf, hf'⟩, hx⟩
theorem IsCan.newRat {w w' : World} {r : RVal} {q : Rat} (h : IsCan w' r q w.heap.size) (hx : Ext w w') : NewRat q w (.returned (.agg #[.bool r.s, .slice r.a r.k r.c, .slice r.b r.j r.d])) w' := by
  refine ⟨r.a, r.c, r.b, r.d, by rw [h.s, h.k, h.j], ?_, h.fa, ?_, h.fb, hx⟩
  · have := h.num; rwa [h.k] at this
  · have := h.den; rwa [h.j] at this

/-- The slice '.slice a rs.length c' of rational numbers holds rs, with the values qs. -/
structure Rats (w : World) (a : Option Addr) (c : Nat) (rs : List RVal) (qs : List Rat) (L : Nat) : Prop where
  len : qs.length = rs.length
  le : rs.length ≤ c
  cap : c ≤ 9223372036854775807
  short : rs.length ≤ 1099511627776
  cell : ∀ i (h : i < rs.length), ∃ b o, a = some ⟨b, o, none⟩ ∧ w.cell? ⟨b, o + i * 3, none⟩ = some (.bool rs[i].s) ∧ w.cell? ⟨b, o + i * 3 + 1, none⟩ = some (.slice rs[i].a rs[i].k rs[i].c) ∧ w.cell? ⟨b, o + i * 3 + 2, none⟩ = some (.slice rs[i].b rs[i].j rs[i].d)
  num : ∀ i (h : i < rs.length), IsRat w rs[i] (qs[i]'(by omega)) L

theorem Rats.ext {w w' : World} {a : Option Addr} {c : Nat} {rs : List RVal} {qs : List Rat} {L : Nat} (h : Rats w a c rs qs L) (e : Ext w w') : Rats w' a c rs qs L :=
  ⟨h.len, h.le, h.cap, h.short, fun i hi => by
    obtain ⟨b, o, ha, h0, h1, h2⟩ := h.cell i hi
    exact ⟨b, o, ha, cell_ext e h0, cell_ext e h1, cell_ext e h2⟩, fun i hi => (h.num i hi).ext e⟩
theorem Rats.at {w : World} {a : Option Addr} {c : Nat} {rs : List RVal} {qs : List Rat} {L : Nat} (h : Rats w a c rs qs L) (h0 : 0 < rs.length) : ∃ b o, a = some ⟨b, o, none⟩ := by
  obtain ⟨b, o, ha, _⟩ := h.cell 0 h0; exact ⟨b, o, ha⟩

end Go.Proofs.YtgihpfkjpfanmaaGreat

/- Contract of rational.Sum. -/
namespace Go.Proofs.YtgihpfkjpfanmaaGreat
open Go.RowKit

/-- The sum of a list. -/
def qsum (l : List Rat) : Rat := l.foldl (· + ·) 0
theorem qsum_take {l : List Rat} {i : Nat} (h : i < l.length) : qsum (l.take (i + 1)) = qsum (l.take i) + l[i] := by
  unfold qsum; rw [List.take_succ_eq_append_getElem h, List.foldl_append]; rfl

set_option maxHeartbeats 2000000 in
/-- rational.Sum. -/
theorem rat_Sum (w : World) (a : Option Addr) (c : Nat) (rs : List RVal) (qs : List Rat) (L : Nat) (h : Rats w a c rs qs L) (hb : rs.length * (L + 2) + L + 1 < 100000000) :
    Calls Tryz.prog 82 #[.slice a rs.length c] w (NewRat (qsum qs) w) := by
  have hle := h.le
  have hcap := h.cap
  have hsh := h.short
  go_enter Tryz.func82, Tryz.ntmps82
  go_wp2_with fail
  obtain ⟨W, hW, x0, Z0, A0⟩ := boxes1 w 55 [.bool false, .slice none 0 0, .slice none 0 0]
  rw [← hW]
  clear hW
  obtain ⟨k0_0, k0_1, k0_2, f0_0, f0_1, f0_2⟩ := box3 A0 (Ext.refl _)
  have z0 := (A0.ext (Ext.refl _)).lt
  refine (rat_FromInt _ _ (by decide) (by decide)).mono ?_
  intro e w1 hN
  obtain ⟨r1, rfl, hr1, hx1⟩ := hN.isCan
  obtain ⟨k0_0, k0_1, k0_2, f0_0, f0_1, f0_2⟩ := box3 A0 hx1
  have z0 := (A0.ext hx1).lt
  go_wp2
  obtain ⟨w2, hw2⟩ : ∃ w2, w2 = w1.alloc (Obj.cells #[.bool r1.s, .slice r1.a r1.k r1.c, .slice r1.b r1.j r1.d] 55) := ⟨_, rfl⟩
  rw [← hw2]
  have E2 : Ext w w2 := by rw [hw2]; exact (x0.trans hx1).alloc _
  have P2 : Arr w2 w1.heap.size 55 r1.cells := by rw [hw2]; exact Arr.alloc _ _ _
  have R2 : IsCan w2 r1 (qsum (qs.take 0)) (w.heap.size + 1) := by rw [hw2, ← Z0.out]; exact hr1.ext ((Ext.refl _).alloc _)
  have Q2 : rsz (qsum (qs.take 0)) ≤ 2 := by show rsz (((0 : Int) : Rat)) ≤ 2; rw [rsz_int]; decide
  have C2 : Arr w2 w.heap.size 55 [.bool false, .slice none 0 0, .slice none 0 0] := by rw [hw2]; exact (A0.ext hx1).ext ((Ext.refl _).alloc _)
  have S1 : w.heap.size < w1.heap.size := z0
  clear hw2 k0_0 k0_1 k0_2 f0_0 f0_1 f0_2 z0 hr1 hN
  go_loopw [9] (fun ii wr => ∃ (i : Nat) (r : RVal), i ≤ rs.length ∧ Hid (Arr wr w1.heap.size 55 r.cells) ∧ IsCan wr r (qsum (qs.take i)) (w.heap.size + 1) ∧ Hid (rsz (qsum (qs.take i)) ≤ i * (L + 2) + 2) ∧ Hid (Arr wr w.heap.size 55 [.bool false, .slice none 0 0, .slice none 0 0]) ∧ Ext w wr ∧ ii = .int .i64 i) (fun ii _ => rs.length - (intOf ii).toNat)
  case atStart => exact ⟨0, r1, Nat.zero_le _, P2, R2, Nat.le_trans Q2 (by omega), C2, E2, rfl⟩
  case round =>
    obtain ⟨i, r, hi, hP, hR, hS, hC, hE, rfl⟩ := hrel
    by_cases hlt : i < rs.length
    · have hq := h.ext hE
      obtain ⟨b, o, rfl⟩ := h.at (by omega)
      obtain ⟨b', o', e', c0, c1, c2⟩ := hq.cell i hlt
      cases e'
      obtain ⟨n', m', g1, g2, gq, gl1, gl2⟩ := hq.num i hlt
      obtain ⟨n, m, f1, f2, fq, fl1, fl2⟩ := hR.isRat.mono hS.out
      have hmul : i * (L + 2) + (L + 2) ≤ rs.length * (L + 2) := by
        rw [← Nat.succ_mul]; exact Nat.mul_le_mul_right _ hlt
      generalize rs[i] = y at *
      have FQ := Lib.hid fq; have GQ := Lib.hid gq; clear fq gq
      obtain ⟨p0, p1, p2, p3, p4, p5⟩ := box3 hP.out (Ext.refl _)
      have pz := hP.out.lt
      have cz := hC.out.lt
      go_wp2_with fail
      refine (rat_Add _ _ _ _ _ _ _ _ _ _ (f1.ext ((Ext.refl _).alloc _)) (f2.ext ((Ext.refl _).alloc _)) _ _ _ _ _ _ _ _ _ (g1.ext ((Ext.refl _).alloc _)) (g2.ext ((Ext.refl _).alloc _)) (by omega) (by omega) (by omega) (by omega)).mono ?_
      intro e w3 hN
      rw [← FQ.out, ← GQ.out] at hN
      obtain ⟨r3, rfl, hr3, hx3⟩ := hN.isCan
      obtain ⟨p0, p1, p2, p3, p4, p5⟩ := box3 hP.out (((Ext.refl _).alloc _).trans hx3)
      have pz3 := (hP.out.ext (((Ext.refl _).alloc _).trans hx3)).lt
      have hP3 := hP.out.ext (((Ext.refl _).alloc _).trans hx3)
      have hC3 := hC.out.ext (((Ext.refl _).alloc _).trans hx3)
      have szq : rsz (qsum (qs.take i) + qs[i]'(by rw [h.len]; exact hlt)) ≤ (i + 1) * (L + 2) + 2 := by
        have a1 := rsz_add (qsum (qs.take i)) (qs[i]'(by rw [h.len]; exact hlt))
        have a2 := hS.out
        have a3 := IsRat.rsz ⟨n', m', g1, g2, GQ.out, gl1, gl2⟩
        rw [Nat.succ_mul]; omega
      have SZ := Lib.hid szq; clear szq
      have hsz : w1.heap.size < (wr.alloc (Obj.cells #[.bool y.s, .slice y.a y.k y.c, .slice y.b y.j y.d] 55)).heap.size := by simp; omega
      go_wp2
      go_roundw
      case rel =>
        refine ⟨i + 1, r3, by omega, ?_, ?_, ?_, ?_, Ext.set3 ((hE.alloc _).trans hx3) (by omega) _ _ _, by go_num⟩
        · exact (((hP3.set 0 _).set 1 _).set 2 _)
        · rw [qsum_take (by rw [h.len]; exact hlt)]
          exact (((hr3.setCell _ _ hsz).setCell _ _ hsz).setCell _ _ hsz).mono (by simp; omega)
        · rw [qsum_take (by rw [h.len]; exact hlt)]; exact SZ.out
        · exact ((hC3.other _ _ (by simp; omega)).other _ _ (by simp; omega)).other _ _ (by simp; omega)
      case measure => simp [intOf]; omega
    · obtain rfl : i = rs.length := by omega
      rw [show qs.take rs.length = qs from List.take_of_length_le (by rw [h.len]; exact Nat.le_refl _)] at hR
      obtain ⟨p0, p1, p2, p3, p4, p5⟩ := box3 hP.out (Ext.refl _)
      obtain ⟨q0, q1, q2, q3, q4, q5⟩ := box3 hC.out (Ext.refl _)
      go_wp2
      exact bodyPost_ret (by simp [results, Tryz.results82, go_sem, *]) rfl (IsCan.newRat ((((hR.setCell _ _ (Nat.lt_succ_self _)).setCell _ _ (Nat.lt_succ_self _)).setCell _ _ (Nat.lt_succ_self _)).mono (Nat.le_succ _)) (Ext.set3 hE (Nat.le_refl _) _ _ _))
end Go.Proofs.YtgihpfkjpfanmaaGreat

/- settlement.Apportion: the comparison that it sorts by. -/
namespace Go.Proofs.YtgihpfkjpfanmaaGreat
open Go.RowKit

/-- The first of two numbers that is not 0. -/
def orZ (x y : Int) : Int := if x = 0 then y else x

set_option maxHeartbeats 400000 in
/-- cmp.Or of two integers. -/
theorem cmp_or (w : World) (b : Nat) (x y : Int) (h : Arr w b 3 [.int .i64 x, .int .i64 y]) :
    Calls Tryz.prog 67 #[.slice (some ⟨b, 0, none⟩) 2 2] w fun e w' => e = .returned (.int .i64 (orZ x y)) ∧ Ext w w' := by
  have c0 := h.cell 0
  have c1 := h.cell 1
  simp at c0 c1
  by_cases hx : x = 0
  · subst hx
    by_cases hy : y = 0
    · subst hy
      go_enter Tryz.func67, Tryz.ntmps67
      go_wp2
      refine wp_loop_rounds 3 ?_; rw [rounds_succ]
      go_wp2
      rw [rounds_succ]
      go_wp2
      rw [rounds_succ]
      go_wp2
      go_ret
      exact ⟨rfl, Ext.refl _⟩
    · have hb : (y != 0) = true := by simpa using hy
      go_enter Tryz.func67, Tryz.ntmps67
      go_wp2
      refine wp_loop_rounds 3 ?_; rw [rounds_succ]
      go_wp2
      rw [rounds_succ]
      go_wp2
      go_ret
      exact ⟨rfl, Ext.refl _⟩
  · have hb : (x != 0) = true := by simpa using hx
    go_enter Tryz.func67, Tryz.ntmps67
    go_wp2
    refine wp_loop_rounds 3 ?_; rw [rounds_succ]
    go_wp2
    go_ret
    exact ⟨ret_int (by unfold orZ; rw [if_neg hx]), Ext.refl _⟩

theorem cell_al {w : World} {o : Obj} {p : Addr} {x : Value} (h : w.cell? p = some x) : (w.alloc o).cell? p = some x := cell_ext ((Ext.refl _).alloc _) h

/-- The comparison of two places: the greater part first, then the lesser place. -/
def apCmp (fs : List Rat) (x y : Nat) : Int := orZ (cmpQ (fs[y]?.getD 0) (fs[x]?.getD 0)) (cmpZ (x : Int) (y : Int))

set_option maxHeartbeats 1000000 in
set_option maxRecDepth 100000 in
theorem ap_cmp (w : World) (pb g n L : Nat) (rs : List RVal) (fs : List Rat) (hp : w.cell? ⟨pb, 0, none⟩ = some (.slice (some ⟨g, 0, none⟩) n n)) (hR : Rats w (some ⟨g, 0, none⟩) n rs fs L) (hn : rs.length = n) (hL : L < 100000000) (x y : Nat) (hx : x < n) (hy : y < n) :
    Calls Tryz.prog 86 #[.int .i64 (x : Nat), .int .i64 (y : Nat), .pointer (some ⟨pb, 0, none⟩)] w fun e w' => e = .returned (.int .i64 (apCmp fs x y)) ∧ Ext w w' := by
  have hsh := hR.short
  obtain ⟨b1, o1, e1, xc0, xc1, xc2⟩ := hR.cell x (by omega)
  cases e1
  obtain ⟨b2, o2, e2, yc0, yc1, yc2⟩ := hR.cell y (by omega)
  cases e2
  rw [Nat.zero_add] at xc0 xc1 xc2 yc0 yc1 yc2
  obtain ⟨n1, m1, r1, q1, v1, l1, l2⟩ := hR.num x (by omega)
  obtain ⟨n2, m2, r2, q2, v2, l3, l4⟩ := hR.num y (by omega)
  have hC := fun V (hV : Ext w V) => rat_Compare V rs[y].s _ _ _ _ _ _ _ _ (r2.ext hV) (q2.ext hV) rs[x].s _ _ _ _ _ _ _ _ (r1.ext hV) (q1.ext hV) (by omega) (by omega) (by omega) (by omega)
  have ex : fs[x]?.getD 0 = fs[x]'(by rw [hR.len]; omega) := by rw [List.getElem?_eq_getElem (by rw [hR.len]; omega)]; rfl
  have ey : fs[y]?.getD 0 = fs[y]'(by rw [hR.len]; omega) := by rw [List.getElem?_eq_getElem (by rw [hR.len]; omega)]; rfl
  rw [← v1, ← v2, ← ex, ← ey] at hC
  unfold apCmp
  generalize cmpQ (fs[y]?.getD 0) (fs[x]?.getD 0) = z at hC ⊢
  have HC := Lib.hid hC
  clear hC ex ey v1 v2
  generalize rs[x] = rx at *
  generalize rs[y] = ry at *
  have bx : (x : Int) < (n : Int) := by omega
  have by' : (y : Int) < (n : Int) := by omega
  have cx : (0 : Int) ≤ (x : Int) := by omega
  have cy : (0 : Int) ≤ (y : Int) := by omega
  have hz := block_lt hp
  have hg := block_lt xc0
  simp only at hz hg
  go_enter Tryz.func86, Tryz.ntmps86
  go_wp2_with fail
  go_region_held3 (fun w' => w'.cell? ⟨pb, 0, none⟩ = some (.slice (some ⟨g, 0, none⟩) n n) ∧ w'.cell? ⟨g, x * 3, none⟩ = some (.bool rx.s) ∧ w'.cell? ⟨g, x * 3 + 1, none⟩ = some (.slice rx.a rx.k rx.c) ∧ w'.cell? ⟨g, x * 3 + 2, none⟩ = some (.slice rx.b rx.j rx.d) ∧ w'.cell? ⟨g, y * 3, none⟩ = some (.bool ry.s) ∧ w'.cell? ⟨g, y * 3 + 1, none⟩ = some (.slice ry.a ry.k ry.c) ∧ w'.cell? ⟨g, y * 3 + 2, none⟩ = some (.slice ry.b ry.j ry.d)) (first | exact ⟨hp, xc0, xc1, xc2, yc0, yc1, yc2⟩ | exact ⟨cell_al hp, cell_al xc0, cell_al xc1, cell_al xc2, cell_al yc0, cell_al yc1, cell_al yc2⟩) (first
    | (go_at_call 68; refine (HC.out _ (by exact (Ext.refl _).drew)).mono ?_; rintro e w1 ⟨rfl, x1⟩; have hp := cell_ext ((Ext.refl w).drew.trans x1) hp; have xc0 := cell_ext ((Ext.refl w).drew.trans x1) xc0; have xc1 := cell_ext ((Ext.refl w).drew.trans x1) xc1; have xc2 := cell_ext ((Ext.refl w).drew.trans x1) xc2; have yc0 := cell_ext ((Ext.refl w).drew.trans x1) yc0; have yc1 := cell_ext ((Ext.refl w).drew.trans x1) yc1; have yc2 := cell_ext ((Ext.refl w).drew.trans x1) yc2)
    | (go_at_call 69; refine (cmp_int _ _ _).mono ?_; rintro e w2 ⟨rfl, rfl⟩)
    | (go_at_call 67; refine (cmp_or _ _ _ _ (Arr.alloc w1 3 [.int .i64 z, .int .i64 (cmpZ (x : Int) (y : Int))])).mono ?_; rintro e w3 ⟨rfl, x3⟩; have y3 : Ext w1 w3 := ((Ext.refl w1).alloc _).trans x3; have hp := cell_ext y3 hp; have xc0 := cell_ext y3 xc0; have xc1 := cell_ext y3 xc1; have xc2 := cell_ext y3 xc2; have yc0 := cell_ext y3 yc0; have yc1 := cell_ext y3 yc1; have yc2 := cell_ext y3 yc2))
  all_goals go_wp2_with fail
  all_goals go_ret
  all_goals exact ⟨rfl, ((Ext.refl _).drew.trans x1).trans y3⟩
end Go.Proofs.YtgihpfkjpfanmaaGreat

/- slices.SortFunc at this program: the shelf's laying of its contract, in plain words (written by the kit's command). -/
namespace Go.Proofs
open Go.Shelf
def Tryz.sortL_ren : Go.Shelf.Ren := ⟨fun | 6 => 65 | 15 => 129 | 14 => 128 | 28 => 203 | 29 => 204 | 20 => 195 | 21 => 196 | 22 => 197 | 23 => 198 | 24 => 199 | 25 => 200 | 26 => 201 | 27 => 202 | 46 => 223 | 47 => 224 | 48 => 225 | 49 => 226 | 50 => 227 | 57 => 234 | n => n, fun | 22 => 22 | 24 => 3 | 25 => 46 | 3 => 3 | 39 => 171 | 0 => 0 | 53 => 122 | 55 => 113 | 4 => 4 | 46 => 221 | 45 => 220 | 50 => 71 | 5 => 5 | 9 => 9 | 66 => 234 | 70 => 238 | 76 => 247 | 77 => 248 | n => n, fun | n => n⟩
theorem Tryz.sortL : Go.Proofs.SlLaysF.n6 Tryz.prog Tryz.sortL_ren := {
  mixed := by kernel_rfl,
  f6 := ⟨Tryz.f65.name, by decide, Tryz.func65.trans (congrArg some (by kernel_rfl))⟩,
  f14 := ⟨Tryz.f128.name, by decide, Tryz.func128.trans (congrArg some (by kernel_rfl))⟩,
  f15 := Tryz.func129.trans (congrArg some (by kernel_rfl)),
  f20 := ⟨Tryz.f195.name, by decide, Tryz.func195.trans (congrArg some (by kernel_rfl))⟩,
  f21 := ⟨Tryz.f196.name, by decide, Tryz.func196.trans (congrArg some (by kernel_rfl))⟩,
  f22 := ⟨Tryz.f197.name, by decide, Tryz.func197.trans (congrArg some (by kernel_rfl))⟩,
  f23 := ⟨Tryz.f198.name, by decide, Tryz.func198.trans (congrArg some (by kernel_rfl))⟩,
  f24 := ⟨Tryz.f199.name, by decide, Tryz.func199.trans (congrArg some (by kernel_rfl))⟩,
  f25 := ⟨Tryz.f200.name, by decide, Tryz.func200.trans (congrArg some (by kernel_rfl))⟩,
  f26 := ⟨Tryz.f201.name, by decide, Tryz.func201.trans (congrArg some (by kernel_rfl))⟩,
  f27 := ⟨Tryz.f202.name, by decide, Tryz.func202.trans (congrArg some (by kernel_rfl))⟩,
  f28 := Tryz.func203.trans (congrArg some (by kernel_rfl)),
  f29 := Tryz.func204.trans (congrArg some (by kernel_rfl)),
  f46 := ⟨Tryz.f223.name, by decide, Tryz.func223.trans (congrArg some (by kernel_rfl))⟩,
  f47 := Tryz.func224.trans (congrArg some (by kernel_rfl)),
  f48 := Tryz.func225.trans (congrArg some (by kernel_rfl)),
  f49 := ⟨Tryz.f226.name, by decide, Tryz.func226.trans (congrArg some (by kernel_rfl))⟩,
  f50 := ⟨Tryz.f227.name, by decide, Tryz.func227.trans (congrArg some (by kernel_rfl))⟩,
  f57 := ⟨Tryz.f234.name, by decide, Tryz.func234.trans (congrArg some (by kernel_rfl))⟩,
  t0 := Tryz.underlying0,
  a0 := Tryz.isAgg0,
  z0 := Tryz.sizeOf0,
  v0 := Tryz.zeroValue0,
  t3 := Tryz.underlying3,
  a3 := Tryz.isAgg3,
  z3 := Tryz.sizeOf3,
  v3 := Tryz.zeroValue3,
  t4 := Tryz.underlying4,
  a4 := Tryz.isAgg4,
  z4 := Tryz.sizeOf4,
  v4 := Tryz.zeroValue4,
  t5 := Tryz.underlying5,
  a5 := Tryz.isAgg5,
  z5 := Tryz.sizeOf5,
  v5 := Tryz.zeroValue5,
  t9 := Tryz.underlying9,
  a9 := Tryz.isAgg9,
  z9 := Tryz.sizeOf9,
  v9 := Tryz.zeroValue9,
  t22 := Tryz.underlying22,
  a22 := Tryz.isAgg22,
  z22 := Tryz.sizeOf22,
  v22 := Tryz.zeroValue22,
  a24 := Tryz.isAgg3,
  z24 := Tryz.sizeOf3,
  t25 := Tryz.underlying46,
  a25 := Tryz.isAgg46,
  z25 := Tryz.sizeOf46,
  v25 := Tryz.zeroValue46,
  t39 := Tryz.underlying171,
  a39 := Tryz.isAgg171,
  z39 := Tryz.sizeOf171,
  v39 := Tryz.zeroValue171,
  t45 := Tryz.underlying220,
  a45 := Tryz.isAgg220,
  z45 := Tryz.sizeOf220,
  v45 := Tryz.zeroValue220,
  t46 := Tryz.underlying221,
  a46 := Tryz.isAgg221,
  z46 := Tryz.sizeOf221,
  v46 := Tryz.zeroValue221,
  t50 := Tryz.underlying71,
  a50 := Tryz.isAgg71,
  z50 := Tryz.sizeOf71,
  v50 := Tryz.zeroValue71,
  t53 := Tryz.underlying122,
  a53 := Tryz.isAgg122,
  z53 := Tryz.sizeOf122,
  v53 := Tryz.zeroValue122,
  t55 := Tryz.underlying113,
  a55 := Tryz.isAgg113,
  z55 := Tryz.sizeOf113,
  v55 := Tryz.zeroValue113,
  t66 := Tryz.underlying234,
  a66 := Tryz.isAgg234,
  z66 := Tryz.sizeOf234,
  v66 := Tryz.zeroValue234,
  t70 := Tryz.underlying238,
  a70 := Tryz.isAgg238,
  z70 := Tryz.sizeOf238,
  v70 := Tryz.zeroValue238,
  t76 := Tryz.underlying247,
  a76 := Tryz.isAgg247,
  z76 := Tryz.sizeOf247,
  v76 := Tryz.zeroValue247,
  t77 := Tryz.underlying248,
  a77 := Tryz.isAgg248,
  z77 := Tryz.sizeOf248,
  v77 := Tryz.zeroValue248 }
end Go.Proofs

/- settlement.Apportion: the sorting of the places. -/
namespace Go.Proofs.YtgihpfkjpfanmaaGreat
open Go.RowKit Go.Sort Go.Shelf

/-! ### The order of the places -/

/-- Place x comes before place y. -/
def apLt (fs : List Rat) (x y : Nat) : Prop := fs[y]?.getD 0 < fs[x]?.getD 0 ∨ (fs[y]?.getD 0 = fs[x]?.getD 0 ∧ x < y)

theorem cmpZ_neg_iff {x y : Int} : cmpZ x y < 0 ↔ x < y := by
  unfold cmpZ; split
  · simp [*]
  · split <;> simp [*]

theorem apCmp_lt (fs : List Rat) (x y : Nat) : apCmp fs x y < 0 ↔ apLt fs x y := by
  unfold apCmp orZ apLt
  by_cases h : cmpQ (fs[y]?.getD 0) (fs[x]?.getD 0) = 0
  · rw [if_pos h, cmpZ_neg_iff, cmpQ_eq.1 h]
    constructor
    · intro h1; exact Or.inr ⟨rfl, by omega⟩
    · rintro (h1 | ⟨_, h1⟩)
      · exact absurd h1 Rat.lt_irrefl
      · omega
  · rw [if_neg h, cmpQ_lt]
    constructor
    · exact Or.inl
    · rintro (h1 | ⟨h1, _⟩)
      · exact h1
      · exact absurd (cmpQ_eq.2 h1) h

theorem apLt_irrefl (fs : List Rat) (x : Nat) : ¬ apLt fs x x := by
  rintro (h | ⟨_, h⟩)
  · exact absurd h Rat.lt_irrefl
  · omega
theorem apLt_trans {fs : List Rat} {x y z : Nat} (h1 : apLt fs x y) (h2 : apLt fs y z) : apLt fs x z := by
  unfold apLt at *
  generalize fs[x]?.getD 0 = a at *
  generalize fs[y]?.getD 0 = b at *
  generalize fs[z]?.getD 0 = c at *
  rcases h1 with h1 | ⟨rfl, h1⟩
  · rcases h2 with h2 | ⟨rfl, h2⟩
    · exact Or.inl (by grind)
    · exact Or.inl h1
  · rcases h2 with h2 | ⟨rfl, h2⟩
    · exact Or.inl h2
    · exact Or.inr ⟨rfl, by omega⟩
theorem apLt_total (fs : List Rat) (x y : Nat) (h1 : ¬ apLt fs x y) (h2 : ¬ apLt fs y x) : x = y := by
  unfold apLt at *
  generalize fs[x]?.getD 0 = a at *
  generalize fs[y]?.getD 0 = b at *
  simp only [not_or, not_and, Nat.not_lt] at h1 h2
  have e : a = b := Rat.le_antisymm (Rat.not_lt.1 h1.1) (Rat.not_lt.1 h2.1)
  have i1 := h1.2 e.symm
  have i2 := h2.2 e
  omega
theorem apLt_ntrans {fs : List Rat} {x y z : Nat} (h1 : ¬ apLt fs x y) (h2 : ¬ apLt fs y z) : ¬ apLt fs x z := by
  intro h3
  by_cases e1 : x = y
  · subst e1; exact h2 h3
  · have h4 : apLt fs y x := Classical.byContradiction (fun h => e1 (apLt_total fs x y h1 h))
    exact h2 (apLt_trans h4 h3)

/-! ### What a change of another block leaves -/

/-- w' is as w in the blocks of w but for b. -/
def Agree (b : Nat) (w w' : World) : Prop := ∀ k, k < w.heap.size → k ≠ b → w'.heap[k]? = w.heap[k]?

theorem Agree.cell {b : Nat} {w w' : World} (h : Agree b w w') {p : Addr} {v : Value} (hp : p.block ≠ b) (hc : w.cell? p = some v) : w'.cell? p = some v := by
  have := block_lt hc
  unfold World.cell? at *
  rw [h _ this hp]; exact hc
theorem Agree.raw {b : Nat} {w w' : World} (h : Agree b w w') {a : Option Addr} {k c n : Nat} (hr : Raw w a k c n) (hb : ∀ x, a = some x → x.block ≠ b) : Raw w' a k c n := by
  obtain ⟨l, h1, h2, h3⟩ := hr
  exact ⟨l, h1, h2, h3.le, h3.cap, h3.short, h3.nul, h3.small, fun i hi => by
    obtain ⟨b', o, ha, hc⟩ := h3.cell i hi
    exact ⟨b', o, ha, h.cell (p := ⟨b', o + i, none⟩) (show b' ≠ b from hb ⟨b', o, none⟩ ha) hc⟩⟩
theorem Agree.rats {b : Nat} {w w' : World} (h : Agree b w w') {g c : Nat} {rs : List RVal} {qs : List Rat} {L : Nat} (hr : Rats w (some ⟨g, 0, none⟩) c rs qs L) (hg : g ≠ b)
    (hb : ∀ i (hi : i < rs.length), (∀ x, rs[i].a = some x → x.block ≠ b) ∧ (∀ x, rs[i].b = some x → x.block ≠ b)) : Rats w' (some ⟨g, 0, none⟩) c rs qs L :=
  ⟨hr.len, hr.le, hr.cap, hr.short, fun i hi => by
    obtain ⟨b', o, ha, h0, h1, h2⟩ := hr.cell i hi
    cases ha
    exact ⟨g, 0, rfl, h.cell hg h0, h.cell hg h1, h.cell hg h2⟩, fun i hi => by
    obtain ⟨n, m, h1, h2, h3⟩ := hr.num i hi
    exact ⟨n, m, h.raw h1 (hb i hi).1, h.raw h2 (hb i hi).2, h3⟩⟩

theorem agree_sortWorld {α : Type} [Inhabited α] (enc : α → Value) (w : World) (blk off m : Nat) (d : Array α) (os : Array Obj) : Agree blk w (sortWorld enc w blk off m d os) := by
  intro k hk hne
  unfold sortWorld
  rw [heap_grow_old _ _ (by simpa [Sort.ahead] using hk)]
  unfold putRow mapBlock
  simp [Array.getElem?_modify, Ne.symm hne, Sort.ahead]

/-- The places in order. -/
def apOrder (fs : List Rat) (n : Nat) : List (Fin n) := (List.finRange n).mergeSort (fun x y => !(ltOf (fun a b : Fin n => apCmp fs a b) y x))

/-- The place that comes as number j. -/
def apAt (fs : List Rat) (n j : Nat) : Nat := ((apOrder fs n)[j]?.map (·.val)).getD 0

/-- What the sorting leaves: the places in order, everything else as it was. -/
structure Sorted (fs : List Rat) (n blk : Nat) (w w' : World) : Prop where
  cell : ∀ j, j < n → w'.cell? ⟨blk, j, none⟩ = some (.int .i64 (apAt fs n j : Nat))
  agree : Agree blk w w'
  size : w.heap.size ≤ w'.heap.size
  os : w'.os = w.os
  tape : w'.tape = w.tape
  output : w'.output = w.output
  drawn : w.drawn ≤ w'.drawn

theorem ap_sort (w : World) (pb g blk n L c : Nat) (rs : List RVal) (fs : List Rat) (hp : w.cell? ⟨pb, 0, none⟩ = some (.slice (some ⟨g, 0, none⟩) n n)) (hR : Rats w (some ⟨g, 0, none⟩) n rs fs L) (hn : rs.length = n) (hL : L < 100000000) (h0 : 0 < n) (hn2 : n < 1000000)
    (hpb : pb ≠ blk) (hg : g ≠ blk) (hb : ∀ i (hi : i < rs.length), (∀ x, rs[i].a = some x → x.block ≠ blk) ∧ (∀ x, rs[i].b = some x → x.block ≠ blk))
    (hO : ∀ j, j < n → w.cell? ⟨blk, j, none⟩ = some (.int .i64 (j : Nat)) ∧ w.frozen? ⟨blk, j, none⟩ = false) :
    Calls Tryz.prog 65 #[.slice (some ⟨blk, 0, none⟩) n c, .func (.func 86) #[] #[.pointer (some ⟨pb, 0, none⟩)]] w fun e w' => e = .returned (.tuple #[]) ∧ Sorted fs n blk w w' := by
  obtain ⟨n', rfl⟩ : ∃ n', n = n' + 1 := ⟨n - 1, by omega⟩
  have eg : ∀ args w, (callFunc 86 args).run Tryz.prog w = .ok (.enter 86 args) w := enters_of Tryz.func86 (by kernel_rfl) rfl
  have hsw : SWO (ltOf (fun a b : Fin (n' + 1) => apCmp fs a b)) := by
    have e : ∀ a b : Fin (n' + 1), ltOf (fun a b : Fin (n' + 1) => apCmp fs a b) a b = false ↔ ¬ apLt fs a b := by
      intro a b; unfold ltOf; rw [decide_eq_false_iff_not, apCmp_lt]
    have e' : ∀ a b : Fin (n' + 1), ltOf (fun a b : Fin (n' + 1) => apCmp fs a b) a b = true ↔ apLt fs a b := by
      intro a b; unfold ltOf; rw [decide_eq_true_iff, apCmp_lt]
    refine ⟨fun x => (e x x).2 (apLt_irrefl fs x), fun x y z h1 h2 => (e' x z).2 (apLt_trans ((e' x y).1 h1) ((e' y z).1 h2)), fun x y z h1 h2 => (e x z).2 (apLt_ntrans ((e x y).1 h1) ((e y z).1 h2))⟩
  have htot : ∀ x y : Fin (n' + 1), ltOf (fun a b : Fin (n' + 1) => apCmp fs a b) x y = false → ltOf (fun a b : Fin (n' + 1) => apCmp fs a b) y x = false → x = y := by
    intro x y h1 h2
    unfold ltOf at h1 h2
    rw [decide_eq_false_iff_not, apCmp_lt] at h1 h2
    exact Fin.ext (apLt_total fs x y h1 h2)
  have hsz : (Array.ofFn (fun i : Fin (n' + 1) => i)).size = n' + 1 := by simp
  have hH : Holds (fun i : Fin (n' + 1) => Value.int .i64 (i.val : Nat)) w blk 0 (Array.ofFn (fun i : Fin (n' + 1) => i)) := by
    intro j hj
    rw [hsz] at hj
    rw [Nat.zero_add, getElem!_pos _ j (by rw [hsz]; exact hj)]
    simp only [Array.getElem_ofFn]
    exact hO j hj
  have hblk : blk < w.heap.size := block_lt (p := ⟨blk, 0, none⟩) (hO 0 (by omega)).1
  have hcmp : CmpLays1 Tryz.prog 86 #[.pointer (some ⟨pb, 0, none⟩)] (fun i : Fin (n' + 1) => Value.int .i64 (i.val : Nat)) (fun a b : Fin (n' + 1) => apCmp fs a b) blk 0 (Array.ofFn (fun i : Fin (n' + 1) => i)).size w := by
    intro m os dk _ x y
    have ag := agree_sortWorld (fun i : Fin (n' + 1) => Value.int .i64 (i.val : Nat)) w blk 0 m dk os
    refine (ap_cmp _ pb g (n' + 1) L rs fs (ag.cell hpb hp) (ag.rats hR hg hb) hn hL x y x.2 y.2).mono ?_
    rintro e w' ⟨he, hx⟩
    exact ⟨he, hx.grow⟩
  have hS := Any.slices_SortFunc_total Tryz.sortL (fun i : Fin (n' + 1) => Value.int .i64 (i.val : Nat)) (fun _ => rfl) (fun a b : Fin (n' + 1) => apCmp fs a b) hsw 86 #[.pointer (some ⟨pb, 0, none⟩)] blk 0 c (Array.ofFn (fun i : Fin (n' + 1) => i)) w eg hcmp hH hblk (by rw [hsz]; omega) htot
  rw [hsz] at hS
  change Calls Tryz.prog 65 _ _ _ at hS
  refine hS.mono ?_
  rintro e w' ⟨he, m, os, rfl⟩
  refine ⟨he, ?_⟩
  have hl : (Array.ofFn (fun i : Fin (n' + 1) => i)).toList = List.finRange (n' + 1) := by simp [List.finRange]
  rw [hl]
  have hlen : (apOrder fs (n' + 1)).toArray.size = n' + 1 := by simp [apOrder]
  refine ⟨fun j hj => ?_, agree_sortWorld _ _ _ _ _ _ _, ?_, rfl, rfl, rfl, ?_⟩
  · have hw : SW (fun i : Fin (n' + 1) => Value.int .i64 (i.val : Nat)) w blk 0 (apOrder fs (n' + 1)).toArray (sortWorld (fun i : Fin (n' + 1) => Value.int .i64 (i.val : Nat)) w blk 0 m (apOrder fs (n' + 1)).toArray os) := ⟨m, os, rfl⟩
    have h5 := (hw.holds hblk hH (by rw [hlen, hsz]) j (by rw [hlen]; exact hj)).1
    rw [Nat.zero_add] at h5
    refine h5.trans ?_
    rw [getElem!_pos _ j (by rw [hlen]; exact hj)]
    unfold apAt
    rw [List.getElem?_eq_getElem (by have := hlen; simp at this; omega)]
    rfl
  · show w.heap.size ≤ (sortWorld _ w blk 0 m _ os).heap.size
    unfold sortWorld
    rw [size_grow, size_putRow]; exact Nat.le_add_right _ _
  · show w.drawn ≤ w.drawn + m
    exact Nat.le_add_right _ _
end Go.Proofs.YtgihpfkjpfanmaaGreat
