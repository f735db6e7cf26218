/- Texts of the proof: Rat7, Rat8, Rats, Rat9, Make3. -/
import Derived.Deep.DeepCutAuto
import Derived.Test.YtgihpfkjpfanmaaGreatChecked
import Derived.Lib.Strings
import Derived.Lib.Slices
import Derived.Lib.Small
import Derived.Lib.Walk
import Derived.Lib.BitFns
import Derived.KernelRfl
import Derived.WalkKit
import Derived.WalkSpells
import Derived.Sort.Grow
import Derived.Lib.Hide
import Derived.Laws.CopyOwn
import Derived.Laws.BitsAllLaws
import Derived.Deep.QuietTactic
import Derived.BigQuiet
import Derived.Test.YtgihpfkjpfanmaaGreatRows
import Derived.WalkLawsBesides
import Derived.Deep.RegionWith
import Derived.Deep.RegionHeld3
import Derived.Deep.CutBlock
import Derived.IntWalk
import Derived.Deep.LoopGhost
import Derived.Test.YtgihpfkjpfanmaaGreatQi1
import Derived.Test.YtgihpfkjpfanmaaGreatQi2
import Derived.Test.YtgihpfkjpfanmaaGreatQi3
import Derived.Test.YtgihpfkjpfanmaaGreatQi4
import Derived.Test.YtgihpfkjpfanmaaGreatQi5
import Derived.Test.YtgihpfkjpfanmaaGreatQi6
import Derived.Test.YtgihpfkjpfanmaaGreatQi7
namespace Go.Proofs.YtgihpfkjpfanmaaGreat
open Go.RowKit

theorem sign_zero_iff {p : Rat} : p.num.sign = 0 ↔ p = 0 := by rw [Int.sign_eq_zero_iff_zero, Rat.num_eq_zero]
theorem mkRat_add (x x' : Int) (y y' : Nat) (h : 0 < y) (h' : 0 < y') : mkRat (x * y' + x' * y) (y * y') = mkRat x y + mkRat x' y' := (Rat.mkRat_add_mkRat x x' (by omega) (by omega)).symm
theorem mkRat_add_same (x x' : Int) (y : Nat) (h : 0 < y) : mkRat (x + x') y = mkRat x y + mkRat x' y := by
  rw [← mkRat_add _ _ _ _ h h, ← Int.add_mul, Rat.mkRat_mul_right (by omega)]
theorem len_intAdd (x y : Int) : len (x + y).natAbs ≤ max (len x.natAbs) (len y.natAbs) + 1 :=
  Nat.le_trans (len_mono (Int.natAbs_add_le x y)) (len_add _ _)

set_option maxHeartbeats 1000000 in
/-- rational.Add, the first number is 0. -/
theorem rat_Add_zero1 (w : World) (s : Bool) (a b : Option Addr) (k c j d n m : Nat) (h : Raw w a k c n) (g : Raw w b j d m) (s' : Bool) (a' b' : Option Addr) (k' c' j' d' n' m' : Nat) (h' : Raw w a' k' c' n') (g' : Raw w b' j' d' m') (_b1 : len n < 100000000) (_b2 : len m < 100000000) (b1' : len n' < 100000000) (b2' : len m' < 100000000) (h0 : mkRat (sgn s n) m = 0) :
    Calls Tryz.prog 136 #[.agg #[.bool s, .slice a k c, .slice b j d], .agg #[.bool s', .slice a' k' c', .slice b' j' d']] w (NewRat (mkRat (sgn s n) m + mkRat (sgn s' n') m') w) := by
  have hs : (mkRat (sgn s n) m).num.sign = 0 := sign_zero_iff.2 h0
  have H0 := Lib.hid h0; clear h0
  go_enter Tryz.func136, Tryz.ntmps136
  go_wp2_with fail
  obtain ⟨W, hW, x0, Z0, A0, A1, A2⟩ := boxes3 w 55 [.bool s, .slice a k c, .slice b j d] 55 [.bool s', .slice a' k' c', .slice b' j' d'] 55 [.bool false, .slice none 0 0, .slice none 0 0]
  rw [← hW]
  clear hW
  obtain ⟨k0_0, k0_1, k0_2, f0_0, f0_1, f0_2⟩ := box3 A0 (Ext.refl _)
  have z0 := (A0.ext (Ext.refl _)).lt
  obtain ⟨k1_0, k1_1, k1_2, f1_0, f1_1, f1_2⟩ := box3 A1 (Ext.refl _)
  have z1 := (A1.ext (Ext.refl _)).lt
  obtain ⟨k2_0, k2_1, k2_2, f2_0, f2_1, f2_2⟩ := box3 A2 (Ext.refl _)
  have z2 := (A2.ext (Ext.refl _)).lt
  refine (rat_Sign _ _ _ _ _ _ _ _ _ _ (h.ext x0) (g.ext x0)).mono ?_
  rintro e w1 ⟨rfl, hx1⟩
  obtain ⟨k0_0, k0_1, k0_2, f0_0, f0_1, f0_2⟩ := box3 A0 hx1
  have z0 := (A0.ext hx1).lt
  obtain ⟨k1_0, k1_1, k1_2, f1_0, f1_1, f1_2⟩ := box3 A1 hx1
  have z1 := (A1.ext hx1).lt
  obtain ⟨k2_0, k2_1, k2_2, f2_0, f2_1, f2_2⟩ := box3 A2 hx1
  have z2 := (A2.ext hx1).lt
  rw [hs]
  clear hs
  go_wp2_with fail
  refine (rat_Norm _ _ _ _ _ _ _ _ _ _ ((h'.ext x0).ext hx1) ((g'.ext x0).ext hx1) b1' b2').mono ?_
  intro e wz hN
  rw [← Rat.zero_add (mkRat (sgn s' n') m'), ← H0.out] at hN
  obtain ⟨az, cz, az', cz', rfl, hrz, hfz, hrz', hfz', hxz⟩ := id hN
  obtain ⟨k0_0, k0_1, k0_2, f0_0, f0_1, f0_2⟩ := box3 A0 (hx1.trans hxz)
  have z0 := (A0.ext (hx1.trans hxz)).lt
  obtain ⟨k1_0, k1_1, k1_2, f1_0, f1_1, f1_2⟩ := box3 A1 (hx1.trans hxz)
  have z1 := (A1.ext (hx1.trans hxz)).lt
  obtain ⟨k2_0, k2_1, k2_2, f2_0, f2_1, f2_2⟩ := box3 A2 (hx1.trans hxz)
  have z2 := (A2.ext (hx1.trans hxz)).lt
  go_wp2
  exact bodyPost_ret (by simp [results, Tryz.results136, go_sem, *]) rfl (NewRat.touch (hN.base hx1) x0 (Touch.three _ (by omega) (by rw [Z0.out]; omega) _ _ _))

set_option maxHeartbeats 1000000 in
/-- rational.Add, the second number is 0. -/
theorem rat_Add_zero2 (w : World) (s : Bool) (a b : Option Addr) (k c j d n m : Nat) (h : Raw w a k c n) (g : Raw w b j d m) (s' : Bool) (a' b' : Option Addr) (k' c' j' d' n' m' : Nat) (h' : Raw w a' k' c' n') (g' : Raw w b' j' d' m') (b1 : len n < 100000000) (b2 : len m < 100000000) (_b1' : len n' < 100000000) (_b2' : len m' < 100000000) (hn0 : ¬ mkRat (sgn s n) m = 0) (h0 : mkRat (sgn s' n') m' = 0) :
    Calls Tryz.prog 136 #[.agg #[.bool s, .slice a k c, .slice b j d], .agg #[.bool s', .slice a' k' c', .slice b' j' d']] w (NewRat (mkRat (sgn s n) m + mkRat (sgn s' n') m') w) := by
  have hs : (mkRat (sgn s' n') m').num.sign = 0 := sign_zero_iff.2 h0
  have hs1 : ((mkRat (sgn s n) m).num.sign == 0) = false := by rw [beq_eq_false_iff_ne]; exact fun h => hn0 (sign_zero_iff.1 h)
  have H0 := Lib.hid h0; clear h0 hn0
  go_enter Tryz.func136, Tryz.ntmps136
  go_wp2_with fail
  obtain ⟨W, hW, x0, Z0, A0, A1, A2⟩ := boxes3 w 55 [.bool s, .slice a k c, .slice b j d] 55 [.bool s', .slice a' k' c', .slice b' j' d'] 55 [.bool false, .slice none 0 0, .slice none 0 0]
  rw [← hW]
  clear hW
  obtain ⟨k0_0, k0_1, k0_2, f0_0, f0_1, f0_2⟩ := box3 A0 (Ext.refl _)
  have z0 := (A0.ext (Ext.refl _)).lt
  obtain ⟨k1_0, k1_1, k1_2, f1_0, f1_1, f1_2⟩ := box3 A1 (Ext.refl _)
  have z1 := (A1.ext (Ext.refl _)).lt
  obtain ⟨k2_0, k2_1, k2_2, f2_0, f2_1, f2_2⟩ := box3 A2 (Ext.refl _)
  have z2 := (A2.ext (Ext.refl _)).lt
  refine (rat_Sign _ _ _ _ _ _ _ _ _ _ (h.ext x0) (g.ext x0)).mono ?_
  rintro e w1 ⟨rfl, hx1⟩
  obtain ⟨k0_0, k0_1, k0_2, f0_0, f0_1, f0_2⟩ := box3 A0 hx1
  have z0 := (A0.ext hx1).lt
  obtain ⟨k1_0, k1_1, k1_2, f1_0, f1_1, f1_2⟩ := box3 A1 hx1
  have z1 := (A1.ext hx1).lt
  obtain ⟨k2_0, k2_1, k2_2, f2_0, f2_1, f2_2⟩ := box3 A2 hx1
  have z2 := (A2.ext hx1).lt
  go_wp2_with fail
  refine (rat_Sign _ _ _ _ _ _ _ _ _ _ ((h'.ext x0).ext hx1) ((g'.ext x0).ext hx1)).mono ?_
  rintro e w2 ⟨rfl, hx2⟩
  have y2 : Ext W w2 := hx1.trans hx2
  obtain ⟨k0_0, k0_1, k0_2, f0_0, f0_1, f0_2⟩ := box3 A0 y2
  have z0 := (A0.ext y2).lt
  obtain ⟨k1_0, k1_1, k1_2, f1_0, f1_1, f1_2⟩ := box3 A1 y2
  have z1 := (A1.ext y2).lt
  obtain ⟨k2_0, k2_1, k2_2, f2_0, f2_1, f2_2⟩ := box3 A2 y2
  have z2 := (A2.ext y2).lt
  rw [hs]
  clear hs
  go_wp2_with fail
  refine (rat_Norm _ _ _ _ _ _ _ _ _ _ ((h.ext x0).ext y2) ((g.ext x0).ext y2) b1 b2).mono ?_
  intro e wz hN
  rw [← Rat.add_zero (mkRat (sgn s n) m), ← H0.out] at hN
  obtain ⟨az, cz, az', cz', rfl, hrz, hfz, hrz', hfz', hxz⟩ := id hN
  obtain ⟨k0_0, k0_1, k0_2, f0_0, f0_1, f0_2⟩ := box3 A0 (y2.trans hxz)
  have z0 := (A0.ext (y2.trans hxz)).lt
  obtain ⟨k1_0, k1_1, k1_2, f1_0, f1_1, f1_2⟩ := box3 A1 (y2.trans hxz)
  have z1 := (A1.ext (y2.trans hxz)).lt
  obtain ⟨k2_0, k2_1, k2_2, f2_0, f2_1, f2_2⟩ := box3 A2 (y2.trans hxz)
  have z2 := (A2.ext (y2.trans hxz)).lt
  go_wp2
  exact bodyPost_ret (by simp [results, Tryz.results136, go_sem, *]) rfl (NewRat.touch (hN.base y2) x0 (Touch.three _ (by omega) (by rw [Z0.out]; omega) _ _ _))


set_option maxHeartbeats 4000000 in
set_option maxRecDepth 100000 in
theorem rat_Add_tt (w : World) (s : Bool) (a b : Option Addr) (k c j d n m : Nat) (h : Raw w a k c n) (g : Raw w b j d m) (s' : Bool) (a' b' : Option Addr) (k' c' j' d' n' m' : Nat) (h' : Raw w a' k' c' n') (g' : Raw w b' j' d' m') (_b1 : len n < 100000000) (_b2 : len m < 100000000) (_b1' : len n' < 100000000) (_b2' : len m' < 100000000) (hn0 : ¬ mkRat (sgn s n) m = 0) (hn0' : ¬ mkRat (sgn s' n') m' = 0) (ha : n < 2147483648 ∧ m < 2147483648) (hb : n' < 2147483648 ∧ m' < 2147483648) :
    Calls Tryz.prog 136 #[.agg #[.bool s, .slice a k c, .slice b j d], .agg #[.bool s', .slice a' k' c', .slice b' j' d']] w (NewRat (mkRat (sgn s n) m + mkRat (sgn s' n') m') w) := by
  have hs1 : ((mkRat (sgn s n) m).num.sign == 0) = false := by rw [beq_eq_false_iff_ne]; exact fun h => hn0 (sign_zero_iff.1 h)
  have hs2 : ((mkRat (sgn s' n') m').num.sign == 0) = false := by rw [beq_eq_false_iff_ne]; exact fun h => hn0' (sign_zero_iff.1 h)
  clear hn0 hn0'
  have HA := Lib.hid ha; have HB := Lib.hid hb; clear ha hb
  go_enter Tryz.func136, Tryz.ntmps136
  go_wp2_with fail
  obtain ⟨W, hW, x0, Z0, A0, A1, A2⟩ := boxes3 w 55 [.bool s, .slice a k c, .slice b j d] 55 [.bool s', .slice a' k' c', .slice b' j' d'] 55 [.bool false, .slice none 0 0, .slice none 0 0]
  rw [← hW]
  clear hW
  obtain ⟨k0_0, k0_1, k0_2, f0_0, f0_1, f0_2⟩ := box3 A0 (Ext.refl _)
  have z0 := (A0.ext (Ext.refl _)).lt
  obtain ⟨k1_0, k1_1, k1_2, f1_0, f1_1, f1_2⟩ := box3 A1 (Ext.refl _)
  have z1 := (A1.ext (Ext.refl _)).lt
  obtain ⟨k2_0, k2_1, k2_2, f2_0, f2_1, f2_2⟩ := box3 A2 (Ext.refl _)
  have z2 := (A2.ext (Ext.refl _)).lt
  refine (rat_Sign _ _ _ _ _ _ _ _ _ _ (h.ext x0) (g.ext x0)).mono ?_
  rintro e w1 ⟨rfl, hx1⟩
  obtain ⟨k0_0, k0_1, k0_2, f0_0, f0_1, f0_2⟩ := box3 A0 hx1
  have z0 := (A0.ext hx1).lt
  obtain ⟨k1_0, k1_1, k1_2, f1_0, f1_1, f1_2⟩ := box3 A1 hx1
  have z1 := (A1.ext hx1).lt
  obtain ⟨k2_0, k2_1, k2_2, f2_0, f2_1, f2_2⟩ := box3 A2 hx1
  have z2 := (A2.ext hx1).lt
  go_wp2_with fail
  refine (rat_Sign _ _ _ _ _ _ _ _ _ _ ((h'.ext x0).ext hx1) ((g'.ext x0).ext hx1)).mono ?_
  rintro e w2 ⟨rfl, hx2⟩
  have y2 : Ext W w2 := hx1.trans hx2
  obtain ⟨k0_0, k0_1, k0_2, f0_0, f0_1, f0_2⟩ := box3 A0 y2
  have z0 := (A0.ext y2).lt
  obtain ⟨k1_0, k1_1, k1_2, f1_0, f1_1, f1_2⟩ := box3 A1 y2
  have z1 := (A1.ext y2).lt
  obtain ⟨k2_0, k2_1, k2_2, f2_0, f2_1, f2_2⟩ := box3 A2 y2
  have z2 := (A2.ext y2).lt
  go_wp2_with fail
  refine (rat_small _ _ _ _ _ _ _ _ _ _ ((h.ext x0).ext y2) ((g.ext x0).ext y2) HA.out.1 HA.out.2).mono ?_
  rintro e w3 ⟨x, y, rfl, i1, i2, i3, i4, hxy, hx3⟩
  have HXY := Lib.hid hxy; clear hxy
  have y3 : Ext W w3 := y2.trans hx3
  obtain ⟨k0_0, k0_1, k0_2, f0_0, f0_1, f0_2⟩ := box3 A0 y3
  have z0 := (A0.ext y3).lt
  obtain ⟨k1_0, k1_1, k1_2, f1_0, f1_1, f1_2⟩ := box3 A1 y3
  have z1 := (A1.ext y3).lt
  obtain ⟨k2_0, k2_1, k2_2, f2_0, f2_1, f2_2⟩ := box3 A2 y3
  have z2 := (A2.ext y3).lt
  go_wp2_with fail
  refine (rat_small _ _ _ _ _ _ _ _ _ _ ((h'.ext x0).ext y3) ((g'.ext x0).ext y3) HB.out.1 HB.out.2).mono ?_
  rintro e w4 ⟨x', y', rfl, i1', i2', i3', i4', hxy', hx4⟩
  have HXY' := Lib.hid hxy'; clear hxy'
  have y4 : Ext W w4 := y3.trans hx4
  obtain ⟨k0_0, k0_1, k0_2, f0_0, f0_1, f0_2⟩ := box3 A0 y4
  have z0 := (A0.ext y4).lt
  obtain ⟨k1_0, k1_1, k1_2, f1_0, f1_1, f1_2⟩ := box3 A1 y4
  have z1 := (A1.ext y4).lt
  obtain ⟨k2_0, k2_1, k2_2, f2_0, f2_1, f2_2⟩ := box3 A2 y4
  have z2 := (A2.ext y4).lt
  obtain ⟨m1, m2⟩ := small_mul i1 i2 (by omega : -2147483648 < (y' : Int)) (by omega)
  obtain ⟨m3, m4⟩ := small_mul i1' i2' (by omega : -2147483648 < (y : Int)) (by omega)
  obtain ⟨m5, m6⟩ := small_mul_nat i3 i4 i3' i4'
  have m5' : 0 < (y : Int) * (y' : Int) := by rw [← Int.natCast_mul]; omega
  have m6' : (y : Int) * (y' : Int) ≤ 4611686018427387904 := by rw [← Int.natCast_mul]; omega
  have o1 : x * (y' : Int) + x' * (y : Int) < 9223372036854775808 := by
    by_cases hh : x < 0
    · have := Int.mul_nonpos_of_nonpos_of_nonneg (Int.le_of_lt hh) (by omega : (0 : Int) ≤ (y' : Int)); omega
    · have : x * (y' : Int) ≤ 2147483647 * 2147483647 := Int.mul_le_mul (by omega) (by omega) (by omega) (by omega)
      omega
  have o2 : -9223372036854775808 < x * (y' : Int) + x' * (y : Int) := by
    by_cases hh : x < 0
    · have : (-x) * (y' : Int) ≤ 2147483647 * 2147483647 := Int.mul_le_mul (by omega) (by omega) (by omega) (by omega)
      rw [Int.neg_mul] at this
      omega
    · have := Int.mul_nonneg (by omega : (0 : Int) ≤ x) (by omega : (0 : Int) ≤ (y' : Int)); omega
  go_wp2_with fail
  rw [← Int.natCast_mul]
  refine (rat_quotient _ _ _ (by omega) (by omega) m5 (by omega)).mono ?_
  intro e wz hN
  rw [mkRat_add _ _ _ _ i3 i3', HXY.out, HXY'.out] at hN
  obtain ⟨az, cz, az', cz', rfl, hrz, hfz, hrz', hfz', hxz⟩ := id hN
  obtain ⟨k0_0, k0_1, k0_2, f0_0, f0_1, f0_2⟩ := box3 A0 (y4.trans hxz)
  have z0 := (A0.ext (y4.trans hxz)).lt
  obtain ⟨k1_0, k1_1, k1_2, f1_0, f1_1, f1_2⟩ := box3 A1 (y4.trans hxz)
  have z1 := (A1.ext (y4.trans hxz)).lt
  obtain ⟨k2_0, k2_1, k2_2, f2_0, f2_1, f2_2⟩ := box3 A2 (y4.trans hxz)
  have z2 := (A2.ext (y4.trans hxz)).lt
  go_wp2
  exact bodyPost_ret (by simp [results, Tryz.results136, go_sem, *]) rfl (NewRat.touch (hN.base y4) x0 (Touch.three _ (by omega) (by rw [Z0.out]; omega) _ _ _))

set_option maxHeartbeats 4000000 in
set_option maxRecDepth 100000 in
theorem rat_Add_tf (w : World) (s : Bool) (a b : Option Addr) (k c j d n m : Nat) (h : Raw w a k c n) (g : Raw w b j d m) (s' : Bool) (a' b' : Option Addr) (k' c' j' d' n' m' : Nat) (h' : Raw w a' k' c' n') (g' : Raw w b' j' d' m') (b1 : len n < 100000000) (b2 : len m < 100000000) (b1' : len n' < 100000000) (b2' : len m' < 100000000) (hn0 : ¬ mkRat (sgn s n) m = 0) (hn0' : ¬ mkRat (sgn s' n') m' = 0) (ha : n < 2147483648 ∧ m < 2147483648) (hb : ¬ (n' < 2147483648 ∧ m' < 2147483648)) :
    Calls Tryz.prog 136 #[.agg #[.bool s, .slice a k c, .slice b j d], .agg #[.bool s', .slice a' k' c', .slice b' j' d']] w (NewRat (mkRat (sgn s n) m + mkRat (sgn s' n') m') w) := by
  have hs1 : ((mkRat (sgn s n) m).num.sign == 0) = false := by rw [beq_eq_false_iff_ne]; exact fun h => hn0 (sign_zero_iff.1 h)
  have hs2 : ((mkRat (sgn s' n') m').num.sign == 0) = false := by rw [beq_eq_false_iff_ne]; exact fun h => hn0' (sign_zero_iff.1 h)
  clear hn0 hn0'
  have HA := Lib.hid ha; have HB := Lib.hid hb; clear ha hb
  go_enter Tryz.func136, Tryz.ntmps136
  go_wp2_with fail
  obtain ⟨W, hW, x0, Z0, A0, A1, A2⟩ := boxes3 w 55 [.bool s, .slice a k c, .slice b j d] 55 [.bool s', .slice a' k' c', .slice b' j' d'] 55 [.bool false, .slice none 0 0, .slice none 0 0]
  rw [← hW]
  clear hW
  obtain ⟨k0_0, k0_1, k0_2, f0_0, f0_1, f0_2⟩ := box3 A0 (Ext.refl _)
  have z0 := (A0.ext (Ext.refl _)).lt
  obtain ⟨k1_0, k1_1, k1_2, f1_0, f1_1, f1_2⟩ := box3 A1 (Ext.refl _)
  have z1 := (A1.ext (Ext.refl _)).lt
  obtain ⟨k2_0, k2_1, k2_2, f2_0, f2_1, f2_2⟩ := box3 A2 (Ext.refl _)
  have z2 := (A2.ext (Ext.refl _)).lt
  refine (rat_Sign _ _ _ _ _ _ _ _ _ _ (h.ext x0) (g.ext x0)).mono ?_
  rintro e w1 ⟨rfl, hx1⟩
  obtain ⟨k0_0, k0_1, k0_2, f0_0, f0_1, f0_2⟩ := box3 A0 hx1
  have z0 := (A0.ext hx1).lt
  obtain ⟨k1_0, k1_1, k1_2, f1_0, f1_1, f1_2⟩ := box3 A1 hx1
  have z1 := (A1.ext hx1).lt
  obtain ⟨k2_0, k2_1, k2_2, f2_0, f2_1, f2_2⟩ := box3 A2 hx1
  have z2 := (A2.ext hx1).lt
  go_wp2_with fail
  refine (rat_Sign _ _ _ _ _ _ _ _ _ _ ((h'.ext x0).ext hx1) ((g'.ext x0).ext hx1)).mono ?_
  rintro e w2 ⟨rfl, hx2⟩
  have y2 : Ext W w2 := hx1.trans hx2
  obtain ⟨k0_0, k0_1, k0_2, f0_0, f0_1, f0_2⟩ := box3 A0 y2
  have z0 := (A0.ext y2).lt
  obtain ⟨k1_0, k1_1, k1_2, f1_0, f1_1, f1_2⟩ := box3 A1 y2
  have z1 := (A1.ext y2).lt
  obtain ⟨k2_0, k2_1, k2_2, f2_0, f2_1, f2_2⟩ := box3 A2 y2
  have z2 := (A2.ext y2).lt
  go_wp2_with fail
  refine (rat_small _ _ _ _ _ _ _ _ _ _ ((h.ext x0).ext y2) ((g.ext x0).ext y2) HA.out.1 HA.out.2).mono ?_
  rintro e w3 ⟨x, y, rfl, i1, i2, i3, i4, hxy, hx3⟩
  have HXY := Lib.hid hxy; clear hxy
  have y3 : Ext W w3 := y2.trans hx3
  obtain ⟨k0_0, k0_1, k0_2, f0_0, f0_1, f0_2⟩ := box3 A0 y3
  have z0 := (A0.ext y3).lt
  obtain ⟨k1_0, k1_1, k1_2, f1_0, f1_1, f1_2⟩ := box3 A1 y3
  have z1 := (A1.ext y3).lt
  obtain ⟨k2_0, k2_1, k2_2, f2_0, f2_1, f2_2⟩ := box3 A2 y3
  have z2 := (A2.ext y3).lt
  go_wp2_with fail
  refine (rat_small_no _ _ _ _ _ _ _ _ _ _ ((h'.ext x0).ext y3) ((g'.ext x0).ext y3) HB.out).mono ?_
  rintro e w4 ⟨rfl, hx4⟩
  have y4 : Ext W w4 := y3.trans hx4
  obtain ⟨k0_0, k0_1, k0_2, f0_0, f0_1, f0_2⟩ := box3 A0 y4
  have z0 := (A0.ext y4).lt
  obtain ⟨k1_0, k1_1, k1_2, f1_0, f1_1, f1_2⟩ := box3 A1 y4
  have z1 := (A1.ext y4).lt
  obtain ⟨k2_0, k2_1, k2_2, f2_0, f2_1, f2_2⟩ := box3 A2 y4
  have z2 := (A2.ext y4).lt
  go_wp2_with fail
  refine (rat_parts _ _ _ _ _ _ _ _ _ _ ((h.ext x0).ext y4) ((g.ext x0).ext y4)).mono ?_
  rintro e w5 ⟨s1, a1, k1, c1, n1, e1, j1, d1, m1, rfl, h1, g1, hm1, hv, l1, l2, hx5⟩
  have HV := Lib.hid hv; clear hv
  have y5 : Ext W w5 := y4.trans hx5
  obtain ⟨k0_0, k0_1, k0_2, f0_0, f0_1, f0_2⟩ := box3 A0 y5
  have z0 := (A0.ext y5).lt
  obtain ⟨k1_0, k1_1, k1_2, f1_0, f1_1, f1_2⟩ := box3 A1 y5
  have z1 := (A1.ext y5).lt
  obtain ⟨k2_0, k2_1, k2_2, f2_0, f2_1, f2_2⟩ := box3 A2 y5
  have z2 := (A2.ext y5).lt
  have P5 := Arr.alloc w5 53 [.bool s1, .slice a1 k1 c1]
  have y5' := y5.alloc (.cells #[.bool s1, .slice a1 k1 c1] 53)
  go_wp2_with fail
  refine (rat_parts _ _ _ _ _ _ _ _ _ _ ((h'.ext x0).ext y5') ((g'.ext x0).ext y5')).mono ?_
  rintro e w6 ⟨s2, a2, k2, c2, n2, e2, j2, d2, m2, rfl, h2, g2, hm2, hv2, l3, l4, hx6⟩
  have HV2 := Lib.hid hv2; clear hv2
  have y6 : Ext W w6 := y5'.trans hx6
  obtain ⟨k0_0, k0_1, k0_2, f0_0, f0_1, f0_2⟩ := box3 A0 y6
  have z0 := (A0.ext y6).lt
  obtain ⟨k1_0, k1_1, k1_2, f1_0, f1_1, f1_2⟩ := box3 A1 y6
  have z1 := (A1.ext y6).lt
  obtain ⟨k2_0, k2_1, k2_2, f2_0, f2_1, f2_2⟩ := box3 A2 y6
  have z2 := (A2.ext y6).lt
  obtain ⟨p0, p1, p2, p3⟩ := box2 P5 hx6
  have pz := (P5.ext hx6).lt
  have yV : Ext w6 (w6.alloc (.cells #[.bool s2, .slice a2 k2 c2] 53)) := (Ext.refl _).alloc _
  have PV := (P5.ext hx6).ext yV
  have QV := Arr.alloc w6 53 [.bool s2, .slice a2 k2 c2]
  have H1 := ((h1.ext ((Ext.refl w5).alloc _)).ext hx6).ext yV
  have G1 := ((g1.ext ((Ext.refl w5).alloc _)).ext hx6).ext yV
  have H2 := h2.ext yV
  have G2 := g2.ext yV
  have yW := y6.trans yV
  go_wp2_with fail
  refine (nat_Compare _ _ _ _ _ _ _ _ _ G1 G2).mono ?_
  rintro e w7 ⟨rfl, hq7⟩
  have y7 : Ext W w7 := yW.trans hq7.ext
  obtain ⟨k0_0, k0_1, k0_2, f0_0, f0_1, f0_2⟩ := box3 A0 y7
  have z0 := (A0.ext y7).lt
  obtain ⟨k1_0, k1_1, k1_2, f1_0, f1_1, f1_2⟩ := box3 A1 y7
  have z1 := (A1.ext y7).lt
  obtain ⟨k2_0, k2_1, k2_2, f2_0, f2_1, f2_2⟩ := box3 A2 y7
  have z2 := (A2.ext y7).lt
  have P7 := PV.ext hq7.ext
  have Q7 := QV.ext hq7.ext
  obtain ⟨p0, p1, p2, p3⟩ := box2 P7 (Ext.refl _)
  obtain ⟨q0, q1, q2, q3⟩ := box2 Q7 (Ext.refl _)
  have pz := P7.lt
  have qz := Q7.lt
  have H1 := H1.ext hq7.ext
  have H2 := H2.ext hq7.ext
  have G1 := G1.ext hq7.ext
  have G2 := G2.ext hq7.ext
  by_cases heq : m1 = m2
  · subst heq
    have hcm : cmpN m1 m1 = 0 := by unfold cmpN; simp
    rw [hcm]; clear hcm
    go_wp2_with fail
    refine (int_Add _ _ _ _ _ _ _ _ _ _ _ H1 H2 (by omega) (by omega)).mono ?_
    rintro e w8 ⟨a8, c8, rfl, hr8, hf8, hx8⟩
    have y8 : Ext W w8 := y7.trans hx8
    obtain ⟨k0_0, k0_1, k0_2, f0_0, f0_1, f0_2⟩ := box3 A0 y8
    have z0 := (A0.ext y8).lt
    obtain ⟨k1_0, k1_1, k1_2, f1_0, f1_1, f1_2⟩ := box3 A1 y8
    have z1 := (A1.ext y8).lt
    obtain ⟨k2_0, k2_1, k2_2, f2_0, f2_1, f2_2⟩ := box3 A2 y8
    have z2 := (A2.ext y8).lt
    have bl := len_intAdd (sgn s1 n1) (sgn s2 n2)
    rw [sgn_natAbs, sgn_natAbs] at bl
    go_wp2_with fail
    refine (rat_lowest _ _ _ _ _ _ _ _ _ _ hr8 (G1.ext hx8) hm1 (by omega) (by omega)).mono ?_
    intro e wz hN
    rw [sgn_num, mkRat_add_same _ _ _ hm1, HV.out, HV2.out] at hN
    obtain ⟨az, cz, az', cz', rfl, hrz, hfz, hrz', hfz', hxz⟩ := id hN
    obtain ⟨k0_0, k0_1, k0_2, f0_0, f0_1, f0_2⟩ := box3 A0 (y8.trans hxz)
    have z0 := (A0.ext (y8.trans hxz)).lt
    obtain ⟨k1_0, k1_1, k1_2, f1_0, f1_1, f1_2⟩ := box3 A1 (y8.trans hxz)
    have z1 := (A1.ext (y8.trans hxz)).lt
    obtain ⟨k2_0, k2_1, k2_2, f2_0, f2_1, f2_2⟩ := box3 A2 (y8.trans hxz)
    have z2 := (A2.ext (y8.trans hxz)).lt
    go_wp2
    exact bodyPost_ret (by simp [results, Tryz.results136, go_sem, *]) rfl (NewRat.touch (hN.base y8) x0 (Touch.three _ (by omega) (by rw [Z0.out]; omega) _ _ _))
  · have hcm : (cmpN m1 m2 == 0) = false := by rw [beq_eq_false_iff_ne]; rcases cmpN_cases m1 m2 with h | h | h <;> omega
    go_wp2
    have bl1 : len (sgn s1 n1 * sgn false m2).natAbs < 1000000000 := by rw [Int.natAbs_mul, sgn_natAbs, sgn_natAbs]; have := len_mul n1 m2; omega
    have bl2 : len (sgn s2 n2 * sgn false m1).natAbs < 1000000000 := by rw [Int.natAbs_mul, sgn_natAbs, sgn_natAbs]; have := len_mul n2 m1; omega
    have bl3 := len_intAdd (sgn s1 n1 * sgn false m2) (sgn s2 n2 * sgn false m1)
    rw [Int.natAbs_mul, Int.natAbs_mul, sgn_natAbs, sgn_natAbs, sgn_natAbs, sgn_natAbs] at bl3
    have bl4 := len_mul n1 m2
    have bl5 := len_mul n2 m1
    have bl6 := len_mul m1 m2
    have tok2 : True := trivial
    have sW : w.heap.size + 3 ≤ w7.heap.size := by have := y7.size; rw [Z0.out] at this; exact this
    go_cut [15] (fun s15 wx => ∃ (bb : Nat) (az : Option Addr) (cz : Nat), s15 = .pointer (some ⟨bb, 0, none⟩) ∧ w.heap.size + 3 ≤ bb ∧ Hid (Arr wx bb 53 [.bool (decide (sgn s1 n1 * sgn false m2 + sgn s2 n2 * sgn false m1 < 0)), .slice az (len (sgn s1 n1 * sgn false m2 + sgn s2 n2 * sgn false m1).natAbs) cz]) ∧ Raw wx az (len (sgn s1 n1 * sgn false m2 + sgn s2 n2 * sgn false m1).natAbs) cz (sgn s1 n1 * sgn false m2 + sgn s2 n2 * sgn false m1).natAbs ∧ Ext w7 wx)
    case first =>
      go_region_held3 (fun w' => w'.cell? ⟨w5.heap.size, 0, none⟩ = some (.bool s1) ∧ w'.cell? ⟨w5.heap.size, 1, none⟩ = some (.slice a1 k1 c1) ∧ w'.cell? ⟨w6.heap.size, 0, none⟩ = some (.bool s2) ∧ w'.cell? ⟨w6.heap.size, 1, none⟩ = some (.slice a2 k2 c2)) (first | exact ⟨p0, p1, q0, q1⟩ | (simp [go_sem, p0, p1, q0, q1, pz, qz]; done) | (simp [go_sem, p0, p1, q0, q1, pz, qz]; omega)) (first
        | (go_at_call 134; have _t := tok2; refine (int_Mul _ _ _ _ _ _ _ _ _ _ _ (H1.ext (by repeat (first | exact Ext.refl _ | exact v10 | exact v9 | exact v8 | refine Ext.trans ?_ hx10 | refine Ext.trans ?_ hx9 | refine Ext.trans ?_ hx8 | refine Ext.drew ?_ | refine Ext.alloc ?_ _ | refine Ext.setCell ?_ (by simp; omega) _))) (G2.ext (by repeat (first | exact Ext.refl _ | exact v10 | exact v9 | exact v8 | refine Ext.trans ?_ hx10 | refine Ext.trans ?_ hx9 | refine Ext.trans ?_ hx8 | refine Ext.drew ?_ | refine Ext.alloc ?_ _ | refine Ext.setCell ?_ (by simp; omega) _))) (by omega) (by omega)).mono ?_; rintro e w8 ⟨a8, c8, rfl, hr8, hf8, hx8⟩; clear tok2 _t; have v8 : Ext w7 w8 := (by repeat (first | exact Ext.refl _ | exact v10 | exact v9 | exact v8 | refine Ext.trans ?_ hx10 | refine Ext.trans ?_ hx9 | refine Ext.trans ?_ hx8 | refine Ext.drew ?_ | refine Ext.alloc ?_ _ | refine Ext.setCell ?_ (by simp; omega) _)); have z8 := v8.size; obtain ⟨p0, p1, p2, p3⟩ := box2 P7 v8; obtain ⟨q0, q1, q2, q3⟩ := box2 Q7 v8; have pz := (P7.ext v8).lt; have qz := (Q7.ext v8).lt; (first | (have RB : Arr w8 w7.heap.size 53 [.bool false, .slice none 0 0] := (Arr.alloc w7.drew 53 [.bool false, .slice none 0 0]).ext hx8; obtain ⟨r0, r1, r2, r3⟩ := box2 RB (Ext.refl _); have rz := RB.lt) | skip))
        | (go_at_call 134; refine (int_Mul _ _ _ _ _ _ _ _ _ _ _ (H2.ext (by repeat (first | exact Ext.refl _ | exact v10 | exact v9 | exact v8 | refine Ext.trans ?_ hx10 | refine Ext.trans ?_ hx9 | refine Ext.trans ?_ hx8 | refine Ext.drew ?_ | refine Ext.alloc ?_ _ | refine Ext.setCell ?_ (by simp; omega) _))) (G1.ext (by repeat (first | exact Ext.refl _ | exact v10 | exact v9 | exact v8 | refine Ext.trans ?_ hx10 | refine Ext.trans ?_ hx9 | refine Ext.trans ?_ hx8 | refine Ext.drew ?_ | refine Ext.alloc ?_ _ | refine Ext.setCell ?_ (by simp; omega) _))) (by omega) (by omega)).mono ?_; rintro e w9 ⟨a9, c9, rfl, hr9, hf9, hx9⟩; have v9 : Ext w7 w9 := (by repeat (first | exact Ext.refl _ | exact v10 | exact v9 | exact v8 | refine Ext.trans ?_ hx10 | refine Ext.trans ?_ hx9 | refine Ext.trans ?_ hx8 | refine Ext.drew ?_ | refine Ext.alloc ?_ _ | refine Ext.setCell ?_ (by simp; omega) _)); have z9 := v9.size; obtain ⟨p0, p1, p2, p3⟩ := box2 P7 v9; obtain ⟨q0, q1, q2, q3⟩ := box2 Q7 v9; have pz := (P7.ext v9).lt; have qz := (Q7.ext v9).lt; (first | (have RB := RB.ext hx9; obtain ⟨r0, r1, r2, r3⟩ := box2 RB (Ext.refl _); have rz := RB.lt) | (have RB := (Arr.alloc w8 53 [.bool false, .slice none 0 0]).ext hx9; obtain ⟨r0, r1, r2, r3⟩ := box2 RB (Ext.refl _); have rz := RB.lt) | skip))
        | (go_at_call 208; refine (int_Add _ _ _ _ _ _ _ _ _ _ _ (hr8.ext (by repeat (first | exact Ext.refl _ | exact v10 | exact v9 | exact v8 | refine Ext.trans ?_ hx10 | refine Ext.trans ?_ hx9 | refine Ext.trans ?_ hx8 | refine Ext.drew ?_ | refine Ext.alloc ?_ _ | refine Ext.setCell ?_ (by simp; omega) _))) (hr9.ext (by repeat (first | exact Ext.refl _ | exact v10 | exact v9 | exact v8 | refine Ext.trans ?_ hx10 | refine Ext.trans ?_ hx9 | refine Ext.trans ?_ hx8 | refine Ext.drew ?_ | refine Ext.alloc ?_ _ | refine Ext.setCell ?_ (by simp; omega) _))) bl1 bl2).mono ?_; rintro e w10 ⟨a10, c10, rfl, hr10, hf10, hx10⟩; have v10 : Ext w7 w10 := (by repeat (first | exact Ext.refl _ | exact v10 | exact v9 | exact v8 | refine Ext.trans ?_ hx10 | refine Ext.trans ?_ hx9 | refine Ext.trans ?_ hx8 | refine Ext.drew ?_ | refine Ext.alloc ?_ _ | refine Ext.setCell ?_ (by simp; omega) _)); have z10 := v10.size; obtain ⟨p0, p1, p2, p3⟩ := box2 P7 v10; obtain ⟨q0, q1, q2, q3⟩ := box2 Q7 v10; have pz := (P7.ext v10).lt; have qz := (Q7.ext v10).lt; (first | (have RB := RB.ext hx10; obtain ⟨r0, r1, r2, r3⟩ := box2 RB (Ext.refl _); have rz := RB.lt) | (have RB := (Arr.alloc w9 53 [.bool false, .slice none 0 0]).ext hx10; obtain ⟨r0, r1, r2, r3⟩ := box2 RB (Ext.refl _); have rz := RB.lt) | skip)))
      all_goals go_wp2_with fail
      all_goals go_meet
      all_goals simp only [sgn_num] at hr10 ⊢
      all_goals first
        | exact ⟨_, a10, c10, rfl, by omega, Arr.alloc _ _ _, hr10.ext ((Ext.refl _).alloc _), (by repeat (first | exact Ext.refl _ | exact v10 | exact v9 | exact v8 | refine Ext.trans ?_ hx10 | refine Ext.trans ?_ hx9 | refine Ext.trans ?_ hx8 | refine Ext.drew ?_ | refine Ext.alloc ?_ _ | refine Ext.setCell ?_ (by simp; omega) _))⟩
        | exact ⟨_, a10, c10, rfl, by omega, (RB.set 0 _).set 1 _, Raw.setCell (Raw.setCell hr10 _ _ (hf10.ne (by first | (simp; done) | (simp; omega) | omega))) _ _ (hf10.ne (by first | (simp; done) | (simp; omega) | omega)), Ext.set2 v10 (by omega) _ _⟩
    case rest =>
      obtain ⟨bb, az, cz, rfl, hb3, hA, hR, hx8⟩ := hcut
      have y8 : Ext W wc := y7.trans hx8
      obtain ⟨k0_0, k0_1, k0_2, f0_0, f0_1, f0_2⟩ := box3 A0 y8
      have z0 := (A0.ext y8).lt
      obtain ⟨k1_0, k1_1, k1_2, f1_0, f1_1, f1_2⟩ := box3 A1 y8
      have z1 := (A1.ext y8).lt
      obtain ⟨k2_0, k2_1, k2_2, f2_0, f2_1, f2_2⟩ := box3 A2 y8
      have z2 := (A2.ext y8).lt
      have A8 := hA.out
      obtain ⟨r0, r1, r2, r3⟩ := box2 A8 (Ext.refl _)
      have nb1 : ¬ (w.heap.size + 1 + 1 = bb) := by omega
      have nb2 : ¬ (bb = w.heap.size + 1 + 1) := by omega
      have nb3 : ¬ (w.heap.size + 2 = bb) := by omega
      have nb4 : ¬ (bb = w.heap.size + 2) := by omega
      have G1 := G1.ext hx8
      have G2 := G2.ext hx8
      go_wp2
      go_region_held3 (fun w' => w'.cell? ⟨bb, 0, none⟩ = some (.bool (decide (sgn s1 n1 * sgn false m2 + sgn s2 n2 * sgn false m1 < 0))) ∧ w'.cell? ⟨bb, 1, none⟩ = some (.slice az (len (sgn s1 n1 * sgn false m2 + sgn s2 n2 * sgn false m1).natAbs) cz)) (first | exact ⟨r0, r1⟩ | (simp [go_sem, r0, r1]; done)) (first
        | (go_at_call 157; refine (nat_Mul _ _ _ _ _ _ _ _ _ (G1.ext (by exact (Ext.refl _).drew)) (G2.ext (by exact (Ext.refl _).drew)) (by omega) (by omega)).mono ?_; rintro e w11 ⟨a11, c11, rfl, hr11, hf11, hx11⟩; obtain ⟨r0, r1, r2, r3⟩ := box2 A8 ((Ext.refl wc).drew.trans hx11); obtain ⟨k0_0, k0_1, k0_2, f0_0, f0_1, f0_2⟩ := box3 A0 ((y8.drew).trans hx11); have z0 := (A0.ext ((y8.drew).trans hx11)).lt; obtain ⟨k1_0, k1_1, k1_2, f1_0, f1_1, f1_2⟩ := box3 A1 ((y8.drew).trans hx11); have z1 := (A1.ext ((y8.drew).trans hx11)).lt; obtain ⟨k2_0, k2_1, k2_2, f2_0, f2_1, f2_2⟩ := box3 A2 ((y8.drew).trans hx11); have z2 := (A2.ext ((y8.drew).trans hx11)).lt)
        | (go_at_call 156; refine (rat_lowest _ _ _ _ _ _ _ _ _ _ ((hR.ext (by exact (Ext.refl _).drew)).ext hx11) hr11 (Nat.mul_pos hm1 hm2) (by omega) (by omega)).mono ?_; intro e wz hN; rw [sgn_num, sgn_false, sgn_false, mkRat_add _ _ _ _ hm1 hm2, HV.out, HV2.out] at hN; obtain ⟨au, cu, au', cu', rfl, hrz, hfz, hrz', hfz', hxz⟩ := id hN; obtain ⟨r0, r1, r2, r3⟩ := box2 A8 (((Ext.refl wc).drew.trans hx11).trans hxz); obtain ⟨k0_0, k0_1, k0_2, f0_0, f0_1, f0_2⟩ := box3 A0 (((y8.drew).trans hx11).trans hxz); have z0 := (A0.ext (((y8.drew).trans hx11).trans hxz)).lt; obtain ⟨k1_0, k1_1, k1_2, f1_0, f1_1, f1_2⟩ := box3 A1 (((y8.drew).trans hx11).trans hxz); have z1 := (A1.ext (((y8.drew).trans hx11).trans hxz)).lt; obtain ⟨k2_0, k2_1, k2_2, f2_0, f2_1, f2_2⟩ := box3 A2 (((y8.drew).trans hx11).trans hxz); have z2 := (A2.ext (((y8.drew).trans hx11).trans hxz)).lt))
      go_wp2
      exact bodyPost_ret (by simp [results, Tryz.results136, go_sem, *]) rfl (NewRat.touch (hN.base ((y8.drew).trans hx11)) x0 (Touch.three _ (by omega) (by rw [Z0.out]; omega) _ _ _))

set_option maxHeartbeats 4000000 in
set_option maxRecDepth 100000 in
theorem rat_Add_ft (w : World) (s : Bool) (a b : Option Addr) (k c j d n m : Nat) (h : Raw w a k c n) (g : Raw w b j d m) (s' : Bool) (a' b' : Option Addr) (k' c' j' d' n' m' : Nat) (h' : Raw w a' k' c' n') (g' : Raw w b' j' d' m') (b1 : len n < 100000000) (b2 : len m < 100000000) (b1' : len n' < 100000000) (b2' : len m' < 100000000) (hn0 : ¬ mkRat (sgn s n) m = 0) (hn0' : ¬ mkRat (sgn s' n') m' = 0) (ha : ¬ (n < 2147483648 ∧ m < 2147483648)) (hb : n' < 2147483648 ∧ m' < 2147483648) :
    Calls Tryz.prog 136 #[.agg #[.bool s, .slice a k c, .slice b j d], .agg #[.bool s', .slice a' k' c', .slice b' j' d']] w (NewRat (mkRat (sgn s n) m + mkRat (sgn s' n') m') w) := by
  have hs1 : ((mkRat (sgn s n) m).num.sign == 0) = false := by rw [beq_eq_false_iff_ne]; exact fun h => hn0 (sign_zero_iff.1 h)
  have hs2 : ((mkRat (sgn s' n') m').num.sign == 0) = false := by rw [beq_eq_false_iff_ne]; exact fun h => hn0' (sign_zero_iff.1 h)
  clear hn0 hn0'
  have HA := Lib.hid ha; have HB := Lib.hid hb; clear ha hb
  go_enter Tryz.func136, Tryz.ntmps136
  go_wp2_with fail
  obtain ⟨W, hW, x0, Z0, A0, A1, A2⟩ := boxes3 w 55 [.bool s, .slice a k c, .slice b j d] 55 [.bool s', .slice a' k' c', .slice b' j' d'] 55 [.bool false, .slice none 0 0, .slice none 0 0]
  rw [← hW]
  clear hW
  obtain ⟨k0_0, k0_1, k0_2, f0_0, f0_1, f0_2⟩ := box3 A0 (Ext.refl _)
  have z0 := (A0.ext (Ext.refl _)).lt
  obtain ⟨k1_0, k1_1, k1_2, f1_0, f1_1, f1_2⟩ := box3 A1 (Ext.refl _)
  have z1 := (A1.ext (Ext.refl _)).lt
  obtain ⟨k2_0, k2_1, k2_2, f2_0, f2_1, f2_2⟩ := box3 A2 (Ext.refl _)
  have z2 := (A2.ext (Ext.refl _)).lt
  refine (rat_Sign _ _ _ _ _ _ _ _ _ _ (h.ext x0) (g.ext x0)).mono ?_
  rintro e w1 ⟨rfl, hx1⟩
  obtain ⟨k0_0, k0_1, k0_2, f0_0, f0_1, f0_2⟩ := box3 A0 hx1
  have z0 := (A0.ext hx1).lt
  obtain ⟨k1_0, k1_1, k1_2, f1_0, f1_1, f1_2⟩ := box3 A1 hx1
  have z1 := (A1.ext hx1).lt
  obtain ⟨k2_0, k2_1, k2_2, f2_0, f2_1, f2_2⟩ := box3 A2 hx1
  have z2 := (A2.ext hx1).lt
  go_wp2_with fail
  refine (rat_Sign _ _ _ _ _ _ _ _ _ _ ((h'.ext x0).ext hx1) ((g'.ext x0).ext hx1)).mono ?_
  rintro e w2 ⟨rfl, hx2⟩
  have y2 : Ext W w2 := hx1.trans hx2
  obtain ⟨k0_0, k0_1, k0_2, f0_0, f0_1, f0_2⟩ := box3 A0 y2
  have z0 := (A0.ext y2).lt
  obtain ⟨k1_0, k1_1, k1_2, f1_0, f1_1, f1_2⟩ := box3 A1 y2
  have z1 := (A1.ext y2).lt
  obtain ⟨k2_0, k2_1, k2_2, f2_0, f2_1, f2_2⟩ := box3 A2 y2
  have z2 := (A2.ext y2).lt
  go_wp2_with fail
  refine (rat_small_no _ _ _ _ _ _ _ _ _ _ ((h.ext x0).ext y2) ((g.ext x0).ext y2) HA.out).mono ?_
  rintro e w3 ⟨rfl, hx3⟩
  have y3 : Ext W w3 := y2.trans hx3
  obtain ⟨k0_0, k0_1, k0_2, f0_0, f0_1, f0_2⟩ := box3 A0 y3
  have z0 := (A0.ext y3).lt
  obtain ⟨k1_0, k1_1, k1_2, f1_0, f1_1, f1_2⟩ := box3 A1 y3
  have z1 := (A1.ext y3).lt
  obtain ⟨k2_0, k2_1, k2_2, f2_0, f2_1, f2_2⟩ := box3 A2 y3
  have z2 := (A2.ext y3).lt
  go_wp2_with fail
  refine (rat_small _ _ _ _ _ _ _ _ _ _ ((h'.ext x0).ext y3) ((g'.ext x0).ext y3) HB.out.1 HB.out.2).mono ?_
  rintro e w4 ⟨x', y', rfl, i1', i2', i3', i4', hxy', hx4⟩
  have HXY' := Lib.hid hxy'; clear hxy'
  have y4 : Ext W w4 := y3.trans hx4
  obtain ⟨k0_0, k0_1, k0_2, f0_0, f0_1, f0_2⟩ := box3 A0 y4
  have z0 := (A0.ext y4).lt
  obtain ⟨k1_0, k1_1, k1_2, f1_0, f1_1, f1_2⟩ := box3 A1 y4
  have z1 := (A1.ext y4).lt
  obtain ⟨k2_0, k2_1, k2_2, f2_0, f2_1, f2_2⟩ := box3 A2 y4
  have z2 := (A2.ext y4).lt
  go_wp2_with fail
  refine (rat_parts _ _ _ _ _ _ _ _ _ _ ((h.ext x0).ext y4) ((g.ext x0).ext y4)).mono ?_
  rintro e w5 ⟨s1, a1, k1, c1, n1, e1, j1, d1, m1, rfl, h1, g1, hm1, hv, l1, l2, hx5⟩
  have HV := Lib.hid hv; clear hv
  have y5 : Ext W w5 := y4.trans hx5
  obtain ⟨k0_0, k0_1, k0_2, f0_0, f0_1, f0_2⟩ := box3 A0 y5
  have z0 := (A0.ext y5).lt
  obtain ⟨k1_0, k1_1, k1_2, f1_0, f1_1, f1_2⟩ := box3 A1 y5
  have z1 := (A1.ext y5).lt
  obtain ⟨k2_0, k2_1, k2_2, f2_0, f2_1, f2_2⟩ := box3 A2 y5
  have z2 := (A2.ext y5).lt
  have P5 := Arr.alloc w5 53 [.bool s1, .slice a1 k1 c1]
  have y5' := y5.alloc (.cells #[.bool s1, .slice a1 k1 c1] 53)
  go_wp2_with fail
  refine (rat_parts _ _ _ _ _ _ _ _ _ _ ((h'.ext x0).ext y5') ((g'.ext x0).ext y5')).mono ?_
  rintro e w6 ⟨s2, a2, k2, c2, n2, e2, j2, d2, m2, rfl, h2, g2, hm2, hv2, l3, l4, hx6⟩
  have HV2 := Lib.hid hv2; clear hv2
  have y6 : Ext W w6 := y5'.trans hx6
  obtain ⟨k0_0, k0_1, k0_2, f0_0, f0_1, f0_2⟩ := box3 A0 y6
  have z0 := (A0.ext y6).lt
  obtain ⟨k1_0, k1_1, k1_2, f1_0, f1_1, f1_2⟩ := box3 A1 y6
  have z1 := (A1.ext y6).lt
  obtain ⟨k2_0, k2_1, k2_2, f2_0, f2_1, f2_2⟩ := box3 A2 y6
  have z2 := (A2.ext y6).lt
  obtain ⟨p0, p1, p2, p3⟩ := box2 P5 hx6
  have pz := (P5.ext hx6).lt
  have yV : Ext w6 (w6.alloc (.cells #[.bool s2, .slice a2 k2 c2] 53)) := (Ext.refl _).alloc _
  have PV := (P5.ext hx6).ext yV
  have QV := Arr.alloc w6 53 [.bool s2, .slice a2 k2 c2]
  have H1 := ((h1.ext ((Ext.refl w5).alloc _)).ext hx6).ext yV
  have G1 := ((g1.ext ((Ext.refl w5).alloc _)).ext hx6).ext yV
  have H2 := h2.ext yV
  have G2 := g2.ext yV
  have yW := y6.trans yV
  go_wp2_with fail
  refine (nat_Compare _ _ _ _ _ _ _ _ _ G1 G2).mono ?_
  rintro e w7 ⟨rfl, hq7⟩
  have y7 : Ext W w7 := yW.trans hq7.ext
  obtain ⟨k0_0, k0_1, k0_2, f0_0, f0_1, f0_2⟩ := box3 A0 y7
  have z0 := (A0.ext y7).lt
  obtain ⟨k1_0, k1_1, k1_2, f1_0, f1_1, f1_2⟩ := box3 A1 y7
  have z1 := (A1.ext y7).lt
  obtain ⟨k2_0, k2_1, k2_2, f2_0, f2_1, f2_2⟩ := box3 A2 y7
  have z2 := (A2.ext y7).lt
  have P7 := PV.ext hq7.ext
  have Q7 := QV.ext hq7.ext
  obtain ⟨p0, p1, p2, p3⟩ := box2 P7 (Ext.refl _)
  obtain ⟨q0, q1, q2, q3⟩ := box2 Q7 (Ext.refl _)
  have pz := P7.lt
  have qz := Q7.lt
  have H1 := H1.ext hq7.ext
  have H2 := H2.ext hq7.ext
  have G1 := G1.ext hq7.ext
  have G2 := G2.ext hq7.ext
  by_cases heq : m1 = m2
  · subst heq
    have hcm : cmpN m1 m1 = 0 := by unfold cmpN; simp
    rw [hcm]; clear hcm
    go_wp2_with fail
    refine (int_Add _ _ _ _ _ _ _ _ _ _ _ H1 H2 (by omega) (by omega)).mono ?_
    rintro e w8 ⟨a8, c8, rfl, hr8, hf8, hx8⟩
    have y8 : Ext W w8 := y7.trans hx8
    obtain ⟨k0_0, k0_1, k0_2, f0_0, f0_1, f0_2⟩ := box3 A0 y8
    have z0 := (A0.ext y8).lt
    obtain ⟨k1_0, k1_1, k1_2, f1_0, f1_1, f1_2⟩ := box3 A1 y8
    have z1 := (A1.ext y8).lt
    obtain ⟨k2_0, k2_1, k2_2, f2_0, f2_1, f2_2⟩ := box3 A2 y8
    have z2 := (A2.ext y8).lt
    have bl := len_intAdd (sgn s1 n1) (sgn s2 n2)
    rw [sgn_natAbs, sgn_natAbs] at bl
    go_wp2_with fail
    refine (rat_lowest _ _ _ _ _ _ _ _ _ _ hr8 (G1.ext hx8) hm1 (by omega) (by omega)).mono ?_
    intro e wz hN
    rw [sgn_num, mkRat_add_same _ _ _ hm1, HV.out, HV2.out] at hN
    obtain ⟨az, cz, az', cz', rfl, hrz, hfz, hrz', hfz', hxz⟩ := id hN
    obtain ⟨k0_0, k0_1, k0_2, f0_0, f0_1, f0_2⟩ := box3 A0 (y8.trans hxz)
    have z0 := (A0.ext (y8.trans hxz)).lt
    obtain ⟨k1_0, k1_1, k1_2, f1_0, f1_1, f1_2⟩ := box3 A1 (y8.trans hxz)
    have z1 := (A1.ext (y8.trans hxz)).lt
    obtain ⟨k2_0, k2_1, k2_2, f2_0, f2_1, f2_2⟩ := box3 A2 (y8.trans hxz)
    have z2 := (A2.ext (y8.trans hxz)).lt
    go_wp2
    exact bodyPost_ret (by simp [results, Tryz.results136, go_sem, *]) rfl (NewRat.touch (hN.base y8) x0 (Touch.three _ (by omega) (by rw [Z0.out]; omega) _ _ _))
  · have hcm : (cmpN m1 m2 == 0) = false := by rw [beq_eq_false_iff_ne]; rcases cmpN_cases m1 m2 with h | h | h <;> omega
    go_wp2
    have bl1 : len (sgn s1 n1 * sgn false m2).natAbs < 1000000000 := by rw [Int.natAbs_mul, sgn_natAbs, sgn_natAbs]; have := len_mul n1 m2; omega
    have bl2 : len (sgn s2 n2 * sgn false m1).natAbs < 1000000000 := by rw [Int.natAbs_mul, sgn_natAbs, sgn_natAbs]; have := len_mul n2 m1; omega
    have bl3 := len_intAdd (sgn s1 n1 * sgn false m2) (sgn s2 n2 * sgn false m1)
    rw [Int.natAbs_mul, Int.natAbs_mul, sgn_natAbs, sgn_natAbs, sgn_natAbs, sgn_natAbs] at bl3
    have bl4 := len_mul n1 m2
    have bl5 := len_mul n2 m1
    have bl6 := len_mul m1 m2
    have tok2 : True := trivial
    have sW : w.heap.size + 3 ≤ w7.heap.size := by have := y7.size; rw [Z0.out] at this; exact this
    go_cut [15] (fun s15 wx => ∃ (bb : Nat) (az : Option Addr) (cz : Nat), s15 = .pointer (some ⟨bb, 0, none⟩) ∧ w.heap.size + 3 ≤ bb ∧ Hid (Arr wx bb 53 [.bool (decide (sgn s1 n1 * sgn false m2 + sgn s2 n2 * sgn false m1 < 0)), .slice az (len (sgn s1 n1 * sgn false m2 + sgn s2 n2 * sgn false m1).natAbs) cz]) ∧ Raw wx az (len (sgn s1 n1 * sgn false m2 + sgn s2 n2 * sgn false m1).natAbs) cz (sgn s1 n1 * sgn false m2 + sgn s2 n2 * sgn false m1).natAbs ∧ Ext w7 wx)
    case first =>
      go_region_held3 (fun w' => w'.cell? ⟨w5.heap.size, 0, none⟩ = some (.bool s1) ∧ w'.cell? ⟨w5.heap.size, 1, none⟩ = some (.slice a1 k1 c1) ∧ w'.cell? ⟨w6.heap.size, 0, none⟩ = some (.bool s2) ∧ w'.cell? ⟨w6.heap.size, 1, none⟩ = some (.slice a2 k2 c2)) (first | exact ⟨p0, p1, q0, q1⟩ | (simp [go_sem, p0, p1, q0, q1, pz, qz]; done) | (simp [go_sem, p0, p1, q0, q1, pz, qz]; omega)) (first
        | (go_at_call 134; have _t := tok2; refine (int_Mul _ _ _ _ _ _ _ _ _ _ _ (H1.ext (by repeat (first | exact Ext.refl _ | exact v10 | exact v9 | exact v8 | refine Ext.trans ?_ hx10 | refine Ext.trans ?_ hx9 | refine Ext.trans ?_ hx8 | refine Ext.drew ?_ | refine Ext.alloc ?_ _ | refine Ext.setCell ?_ (by simp; omega) _))) (G2.ext (by repeat (first | exact Ext.refl _ | exact v10 | exact v9 | exact v8 | refine Ext.trans ?_ hx10 | refine Ext.trans ?_ hx9 | refine Ext.trans ?_ hx8 | refine Ext.drew ?_ | refine Ext.alloc ?_ _ | refine Ext.setCell ?_ (by simp; omega) _))) (by omega) (by omega)).mono ?_; rintro e w8 ⟨a8, c8, rfl, hr8, hf8, hx8⟩; clear tok2 _t; have v8 : Ext w7 w8 := (by repeat (first | exact Ext.refl _ | exact v10 | exact v9 | exact v8 | refine Ext.trans ?_ hx10 | refine Ext.trans ?_ hx9 | refine Ext.trans ?_ hx8 | refine Ext.drew ?_ | refine Ext.alloc ?_ _ | refine Ext.setCell ?_ (by simp; omega) _)); have z8 := v8.size; obtain ⟨p0, p1, p2, p3⟩ := box2 P7 v8; obtain ⟨q0, q1, q2, q3⟩ := box2 Q7 v8; have pz := (P7.ext v8).lt; have qz := (Q7.ext v8).lt; (first | (have RB : Arr w8 w7.heap.size 53 [.bool false, .slice none 0 0] := (Arr.alloc w7.drew 53 [.bool false, .slice none 0 0]).ext hx8; obtain ⟨r0, r1, r2, r3⟩ := box2 RB (Ext.refl _); have rz := RB.lt) | skip))
        | (go_at_call 134; refine (int_Mul _ _ _ _ _ _ _ _ _ _ _ (H2.ext (by repeat (first | exact Ext.refl _ | exact v10 | exact v9 | exact v8 | refine Ext.trans ?_ hx10 | refine Ext.trans ?_ hx9 | refine Ext.trans ?_ hx8 | refine Ext.drew ?_ | refine Ext.alloc ?_ _ | refine Ext.setCell ?_ (by simp; omega) _))) (G1.ext (by repeat (first | exact Ext.refl _ | exact v10 | exact v9 | exact v8 | refine Ext.trans ?_ hx10 | refine Ext.trans ?_ hx9 | refine Ext.trans ?_ hx8 | refine Ext.drew ?_ | refine Ext.alloc ?_ _ | refine Ext.setCell ?_ (by simp; omega) _))) (by omega) (by omega)).mono ?_; rintro e w9 ⟨a9, c9, rfl, hr9, hf9, hx9⟩; have v9 : Ext w7 w9 := (by repeat (first | exact Ext.refl _ | exact v10 | exact v9 | exact v8 | refine Ext.trans ?_ hx10 | refine Ext.trans ?_ hx9 | refine Ext.trans ?_ hx8 | refine Ext.drew ?_ | refine Ext.alloc ?_ _ | refine Ext.setCell ?_ (by simp; omega) _)); have z9 := v9.size; obtain ⟨p0, p1, p2, p3⟩ := box2 P7 v9; obtain ⟨q0, q1, q2, q3⟩ := box2 Q7 v9; have pz := (P7.ext v9).lt; have qz := (Q7.ext v9).lt; (first | (have RB := RB.ext hx9; obtain ⟨r0, r1, r2, r3⟩ := box2 RB (Ext.refl _); have rz := RB.lt) | (have RB := (Arr.alloc w8 53 [.bool false, .slice none 0 0]).ext hx9; obtain ⟨r0, r1, r2, r3⟩ := box2 RB (Ext.refl _); have rz := RB.lt) | skip))
        | (go_at_call 208; refine (int_Add _ _ _ _ _ _ _ _ _ _ _ (hr8.ext (by repeat (first | exact Ext.refl _ | exact v10 | exact v9 | exact v8 | refine Ext.trans ?_ hx10 | refine Ext.trans ?_ hx9 | refine Ext.trans ?_ hx8 | refine Ext.drew ?_ | refine Ext.alloc ?_ _ | refine Ext.setCell ?_ (by simp; omega) _))) (hr9.ext (by repeat (first | exact Ext.refl _ | exact v10 | exact v9 | exact v8 | refine Ext.trans ?_ hx10 | refine Ext.trans ?_ hx9 | refine Ext.trans ?_ hx8 | refine Ext.drew ?_ | refine Ext.alloc ?_ _ | refine Ext.setCell ?_ (by simp; omega) _))) bl1 bl2).mono ?_; rintro e w10 ⟨a10, c10, rfl, hr10, hf10, hx10⟩; have v10 : Ext w7 w10 := (by repeat (first | exact Ext.refl _ | exact v10 | exact v9 | exact v8 | refine Ext.trans ?_ hx10 | refine Ext.trans ?_ hx9 | refine Ext.trans ?_ hx8 | refine Ext.drew ?_ | refine Ext.alloc ?_ _ | refine Ext.setCell ?_ (by simp; omega) _)); have z10 := v10.size; obtain ⟨p0, p1, p2, p3⟩ := box2 P7 v10; obtain ⟨q0, q1, q2, q3⟩ := box2 Q7 v10; have pz := (P7.ext v10).lt; have qz := (Q7.ext v10).lt; (first | (have RB := RB.ext hx10; obtain ⟨r0, r1, r2, r3⟩ := box2 RB (Ext.refl _); have rz := RB.lt) | (have RB := (Arr.alloc w9 53 [.bool false, .slice none 0 0]).ext hx10; obtain ⟨r0, r1, r2, r3⟩ := box2 RB (Ext.refl _); have rz := RB.lt) | skip)))
      all_goals go_wp2_with fail
      all_goals go_meet
      all_goals simp only [sgn_num] at hr10 ⊢
      all_goals first
        | exact ⟨_, a10, c10, rfl, by omega, Arr.alloc _ _ _, hr10.ext ((Ext.refl _).alloc _), (by repeat (first | exact Ext.refl _ | exact v10 | exact v9 | exact v8 | refine Ext.trans ?_ hx10 | refine Ext.trans ?_ hx9 | refine Ext.trans ?_ hx8 | refine Ext.drew ?_ | refine Ext.alloc ?_ _ | refine Ext.setCell ?_ (by simp; omega) _))⟩
        | exact ⟨_, a10, c10, rfl, by omega, (RB.set 0 _).set 1 _, Raw.setCell (Raw.setCell hr10 _ _ (hf10.ne (by first | (simp; done) | (simp; omega) | omega))) _ _ (hf10.ne (by first | (simp; done) | (simp; omega) | omega)), Ext.set2 v10 (by omega) _ _⟩
    case rest =>
      obtain ⟨bb, az, cz, rfl, hb3, hA, hR, hx8⟩ := hcut
      have y8 : Ext W wc := y7.trans hx8
      obtain ⟨k0_0, k0_1, k0_2, f0_0, f0_1, f0_2⟩ := box3 A0 y8
      have z0 := (A0.ext y8).lt
      obtain ⟨k1_0, k1_1, k1_2, f1_0, f1_1, f1_2⟩ := box3 A1 y8
      have z1 := (A1.ext y8).lt
      obtain ⟨k2_0, k2_1, k2_2, f2_0, f2_1, f2_2⟩ := box3 A2 y8
      have z2 := (A2.ext y8).lt
      have A8 := hA.out
      obtain ⟨r0, r1, r2, r3⟩ := box2 A8 (Ext.refl _)
      have nb1 : ¬ (w.heap.size + 1 + 1 = bb) := by omega
      have nb2 : ¬ (bb = w.heap.size + 1 + 1) := by omega
      have nb3 : ¬ (w.heap.size + 2 = bb) := by omega
      have nb4 : ¬ (bb = w.heap.size + 2) := by omega
      have G1 := G1.ext hx8
      have G2 := G2.ext hx8
      go_wp2
      go_region_held3 (fun w' => w'.cell? ⟨bb, 0, none⟩ = some (.bool (decide (sgn s1 n1 * sgn false m2 + sgn s2 n2 * sgn false m1 < 0))) ∧ w'.cell? ⟨bb, 1, none⟩ = some (.slice az (len (sgn s1 n1 * sgn false m2 + sgn s2 n2 * sgn false m1).natAbs) cz)) (first | exact ⟨r0, r1⟩ | (simp [go_sem, r0, r1]; done)) (first
        | (go_at_call 157; refine (nat_Mul _ _ _ _ _ _ _ _ _ (G1.ext (by exact (Ext.refl _).drew)) (G2.ext (by exact (Ext.refl _).drew)) (by omega) (by omega)).mono ?_; rintro e w11 ⟨a11, c11, rfl, hr11, hf11, hx11⟩; obtain ⟨r0, r1, r2, r3⟩ := box2 A8 ((Ext.refl wc).drew.trans hx11); obtain ⟨k0_0, k0_1, k0_2, f0_0, f0_1, f0_2⟩ := box3 A0 ((y8.drew).trans hx11); have z0 := (A0.ext ((y8.drew).trans hx11)).lt; obtain ⟨k1_0, k1_1, k1_2, f1_0, f1_1, f1_2⟩ := box3 A1 ((y8.drew).trans hx11); have z1 := (A1.ext ((y8.drew).trans hx11)).lt; obtain ⟨k2_0, k2_1, k2_2, f2_0, f2_1, f2_2⟩ := box3 A2 ((y8.drew).trans hx11); have z2 := (A2.ext ((y8.drew).trans hx11)).lt)
        | (go_at_call 156; refine (rat_lowest _ _ _ _ _ _ _ _ _ _ ((hR.ext (by exact (Ext.refl _).drew)).ext hx11) hr11 (Nat.mul_pos hm1 hm2) (by omega) (by omega)).mono ?_; intro e wz hN; rw [sgn_num, sgn_false, sgn_false, mkRat_add _ _ _ _ hm1 hm2, HV.out, HV2.out] at hN; obtain ⟨au, cu, au', cu', rfl, hrz, hfz, hrz', hfz', hxz⟩ := id hN; obtain ⟨r0, r1, r2, r3⟩ := box2 A8 (((Ext.refl wc).drew.trans hx11).trans hxz); obtain ⟨k0_0, k0_1, k0_2, f0_0, f0_1, f0_2⟩ := box3 A0 (((y8.drew).trans hx11).trans hxz); have z0 := (A0.ext (((y8.drew).trans hx11).trans hxz)).lt; obtain ⟨k1_0, k1_1, k1_2, f1_0, f1_1, f1_2⟩ := box3 A1 (((y8.drew).trans hx11).trans hxz); have z1 := (A1.ext (((y8.drew).trans hx11).trans hxz)).lt; obtain ⟨k2_0, k2_1, k2_2, f2_0, f2_1, f2_2⟩ := box3 A2 (((y8.drew).trans hx11).trans hxz); have z2 := (A2.ext (((y8.drew).trans hx11).trans hxz)).lt))
      go_wp2
      exact bodyPost_ret (by simp [results, Tryz.results136, go_sem, *]) rfl (NewRat.touch (hN.base ((y8.drew).trans hx11)) x0 (Touch.three _ (by omega) (by rw [Z0.out]; omega) _ _ _))

set_option maxHeartbeats 4000000 in
set_option maxRecDepth 100000 in
theorem rat_Add_ff (w : World) (s : Bool) (a b : Option Addr) (k c j d n m : Nat) (h : Raw w a k c n) (g : Raw w b j d m) (s' : Bool) (a' b' : Option Addr) (k' c' j' d' n' m' : Nat) (h' : Raw w a' k' c' n') (g' : Raw w b' j' d' m') (b1 : len n < 100000000) (b2 : len m < 100000000) (b1' : len n' < 100000000) (b2' : len m' < 100000000) (hn0 : ¬ mkRat (sgn s n) m = 0) (hn0' : ¬ mkRat (sgn s' n') m' = 0) (ha : ¬ (n < 2147483648 ∧ m < 2147483648)) (hb : ¬ (n' < 2147483648 ∧ m' < 2147483648)) :
    Calls Tryz.prog 136 #[.agg #[.bool s, .slice a k c, .slice b j d], .agg #[.bool s', .slice a' k' c', .slice b' j' d']] w (NewRat (mkRat (sgn s n) m + mkRat (sgn s' n') m') w) := by
  have hs1 : ((mkRat (sgn s n) m).num.sign == 0) = false := by rw [beq_eq_false_iff_ne]; exact fun h => hn0 (sign_zero_iff.1 h)
  have hs2 : ((mkRat (sgn s' n') m').num.sign == 0) = false := by rw [beq_eq_false_iff_ne]; exact fun h => hn0' (sign_zero_iff.1 h)
  clear hn0 hn0'
  have HA := Lib.hid ha; have HB := Lib.hid hb; clear ha hb
  go_enter Tryz.func136, Tryz.ntmps136
  go_wp2_with fail
  obtain ⟨W, hW, x0, Z0, A0, A1, A2⟩ := boxes3 w 55 [.bool s, .slice a k c, .slice b j d] 55 [.bool s', .slice a' k' c', .slice b' j' d'] 55 [.bool false, .slice none 0 0, .slice none 0 0]
  rw [← hW]
  clear hW
  obtain ⟨k0_0, k0_1, k0_2, f0_0, f0_1, f0_2⟩ := box3 A0 (Ext.refl _)
  have z0 := (A0.ext (Ext.refl _)).lt
  obtain ⟨k1_0, k1_1, k1_2, f1_0, f1_1, f1_2⟩ := box3 A1 (Ext.refl _)
  have z1 := (A1.ext (Ext.refl _)).lt
  obtain ⟨k2_0, k2_1, k2_2, f2_0, f2_1, f2_2⟩ := box3 A2 (Ext.refl _)
  have z2 := (A2.ext (Ext.refl _)).lt
  refine (rat_Sign _ _ _ _ _ _ _ _ _ _ (h.ext x0) (g.ext x0)).mono ?_
  rintro e w1 ⟨rfl, hx1⟩
  obtain ⟨k0_0, k0_1, k0_2, f0_0, f0_1, f0_2⟩ := box3 A0 hx1
  have z0 := (A0.ext hx1).lt
  obtain ⟨k1_0, k1_1, k1_2, f1_0, f1_1, f1_2⟩ := box3 A1 hx1
  have z1 := (A1.ext hx1).lt
  obtain ⟨k2_0, k2_1, k2_2, f2_0, f2_1, f2_2⟩ := box3 A2 hx1
  have z2 := (A2.ext hx1).lt
  go_wp2_with fail
  refine (rat_Sign _ _ _ _ _ _ _ _ _ _ ((h'.ext x0).ext hx1) ((g'.ext x0).ext hx1)).mono ?_
  rintro e w2 ⟨rfl, hx2⟩
  have y2 : Ext W w2 := hx1.trans hx2
  obtain ⟨k0_0, k0_1, k0_2, f0_0, f0_1, f0_2⟩ := box3 A0 y2
  have z0 := (A0.ext y2).lt
  obtain ⟨k1_0, k1_1, k1_2, f1_0, f1_1, f1_2⟩ := box3 A1 y2
  have z1 := (A1.ext y2).lt
  obtain ⟨k2_0, k2_1, k2_2, f2_0, f2_1, f2_2⟩ := box3 A2 y2
  have z2 := (A2.ext y2).lt
  go_wp2_with fail
  refine (rat_small_no _ _ _ _ _ _ _ _ _ _ ((h.ext x0).ext y2) ((g.ext x0).ext y2) HA.out).mono ?_
  rintro e w3 ⟨rfl, hx3⟩
  have y3 : Ext W w3 := y2.trans hx3
  obtain ⟨k0_0, k0_1, k0_2, f0_0, f0_1, f0_2⟩ := box3 A0 y3
  have z0 := (A0.ext y3).lt
  obtain ⟨k1_0, k1_1, k1_2, f1_0, f1_1, f1_2⟩ := box3 A1 y3
  have z1 := (A1.ext y3).lt
  obtain ⟨k2_0, k2_1, k2_2, f2_0, f2_1, f2_2⟩ := box3 A2 y3
  have z2 := (A2.ext y3).lt
  go_wp2_with fail
  refine (rat_small_no _ _ _ _ _ _ _ _ _ _ ((h'.ext x0).ext y3) ((g'.ext x0).ext y3) HB.out).mono ?_
  rintro e w4 ⟨rfl, hx4⟩
  have y4 : Ext W w4 := y3.trans hx4
  obtain ⟨k0_0, k0_1, k0_2, f0_0, f0_1, f0_2⟩ := box3 A0 y4
  have z0 := (A0.ext y4).lt
  obtain ⟨k1_0, k1_1, k1_2, f1_0, f1_1, f1_2⟩ := box3 A1 y4
  have z1 := (A1.ext y4).lt
  obtain ⟨k2_0, k2_1, k2_2, f2_0, f2_1, f2_2⟩ := box3 A2 y4
  have z2 := (A2.ext y4).lt
  go_wp2_with fail
  refine (rat_parts _ _ _ _ _ _ _ _ _ _ ((h.ext x0).ext y4) ((g.ext x0).ext y4)).mono ?_
  rintro e w5 ⟨s1, a1, k1, c1, n1, e1, j1, d1, m1, rfl, h1, g1, hm1, hv, l1, l2, hx5⟩
  have HV := Lib.hid hv; clear hv
  have y5 : Ext W w5 := y4.trans hx5
  obtain ⟨k0_0, k0_1, k0_2, f0_0, f0_1, f0_2⟩ := box3 A0 y5
  have z0 := (A0.ext y5).lt
  obtain ⟨k1_0, k1_1, k1_2, f1_0, f1_1, f1_2⟩ := box3 A1 y5
  have z1 := (A1.ext y5).lt
  obtain ⟨k2_0, k2_1, k2_2, f2_0, f2_1, f2_2⟩ := box3 A2 y5
  have z2 := (A2.ext y5).lt
  have P5 := Arr.alloc w5 53 [.bool s1, .slice a1 k1 c1]
  have y5' := y5.alloc (.cells #[.bool s1, .slice a1 k1 c1] 53)
  go_wp2_with fail
  refine (rat_parts _ _ _ _ _ _ _ _ _ _ ((h'.ext x0).ext y5') ((g'.ext x0).ext y5')).mono ?_
  rintro e w6 ⟨s2, a2, k2, c2, n2, e2, j2, d2, m2, rfl, h2, g2, hm2, hv2, l3, l4, hx6⟩
  have HV2 := Lib.hid hv2; clear hv2
  have y6 : Ext W w6 := y5'.trans hx6
  obtain ⟨k0_0, k0_1, k0_2, f0_0, f0_1, f0_2⟩ := box3 A0 y6
  have z0 := (A0.ext y6).lt
  obtain ⟨k1_0, k1_1, k1_2, f1_0, f1_1, f1_2⟩ := box3 A1 y6
  have z1 := (A1.ext y6).lt
  obtain ⟨k2_0, k2_1, k2_2, f2_0, f2_1, f2_2⟩ := box3 A2 y6
  have z2 := (A2.ext y6).lt
  obtain ⟨p0, p1, p2, p3⟩ := box2 P5 hx6
  have pz := (P5.ext hx6).lt
  have yV : Ext w6 (w6.alloc (.cells #[.bool s2, .slice a2 k2 c2] 53)) := (Ext.refl _).alloc _
  have PV := (P5.ext hx6).ext yV
  have QV := Arr.alloc w6 53 [.bool s2, .slice a2 k2 c2]
  have H1 := ((h1.ext ((Ext.refl w5).alloc _)).ext hx6).ext yV
  have G1 := ((g1.ext ((Ext.refl w5).alloc _)).ext hx6).ext yV
  have H2 := h2.ext yV
  have G2 := g2.ext yV
  have yW := y6.trans yV
  go_wp2_with fail
  refine (nat_Compare _ _ _ _ _ _ _ _ _ G1 G2).mono ?_
  rintro e w7 ⟨rfl, hq7⟩
  have y7 : Ext W w7 := yW.trans hq7.ext
  obtain ⟨k0_0, k0_1, k0_2, f0_0, f0_1, f0_2⟩ := box3 A0 y7
  have z0 := (A0.ext y7).lt
  obtain ⟨k1_0, k1_1, k1_2, f1_0, f1_1, f1_2⟩ := box3 A1 y7
  have z1 := (A1.ext y7).lt
  obtain ⟨k2_0, k2_1, k2_2, f2_0, f2_1, f2_2⟩ := box3 A2 y7
  have z2 := (A2.ext y7).lt
  have P7 := PV.ext hq7.ext
  have Q7 := QV.ext hq7.ext
  obtain ⟨p0, p1, p2, p3⟩ := box2 P7 (Ext.refl _)
  obtain ⟨q0, q1, q2, q3⟩ := box2 Q7 (Ext.refl _)
  have pz := P7.lt
  have qz := Q7.lt
  have H1 := H1.ext hq7.ext
  have H2 := H2.ext hq7.ext
  have G1 := G1.ext hq7.ext
  have G2 := G2.ext hq7.ext
  by_cases heq : m1 = m2
  · subst heq
    have hcm : cmpN m1 m1 = 0 := by unfold cmpN; simp
    rw [hcm]; clear hcm
    go_wp2_with fail
    refine (int_Add _ _ _ _ _ _ _ _ _ _ _ H1 H2 (by omega) (by omega)).mono ?_
    rintro e w8 ⟨a8, c8, rfl, hr8, hf8, hx8⟩
    have y8 : Ext W w8 := y7.trans hx8
    obtain ⟨k0_0, k0_1, k0_2, f0_0, f0_1, f0_2⟩ := box3 A0 y8
    have z0 := (A0.ext y8).lt
    obtain ⟨k1_0, k1_1, k1_2, f1_0, f1_1, f1_2⟩ := box3 A1 y8
    have z1 := (A1.ext y8).lt
    obtain ⟨k2_0, k2_1, k2_2, f2_0, f2_1, f2_2⟩ := box3 A2 y8
    have z2 := (A2.ext y8).lt
    have bl := len_intAdd (sgn s1 n1) (sgn s2 n2)
    rw [sgn_natAbs, sgn_natAbs] at bl
    go_wp2_with fail
    refine (rat_lowest _ _ _ _ _ _ _ _ _ _ hr8 (G1.ext hx8) hm1 (by omega) (by omega)).mono ?_
    intro e wz hN
    rw [sgn_num, mkRat_add_same _ _ _ hm1, HV.out, HV2.out] at hN
    obtain ⟨az, cz, az', cz', rfl, hrz, hfz, hrz', hfz', hxz⟩ := id hN
    obtain ⟨k0_0, k0_1, k0_2, f0_0, f0_1, f0_2⟩ := box3 A0 (y8.trans hxz)
    have z0 := (A0.ext (y8.trans hxz)).lt
    obtain ⟨k1_0, k1_1, k1_2, f1_0, f1_1, f1_2⟩ := box3 A1 (y8.trans hxz)
    have z1 := (A1.ext (y8.trans hxz)).lt
    obtain ⟨k2_0, k2_1, k2_2, f2_0, f2_1, f2_2⟩ := box3 A2 (y8.trans hxz)
    have z2 := (A2.ext (y8.trans hxz)).lt
    go_wp2
    exact bodyPost_ret (by simp [results, Tryz.results136, go_sem, *]) rfl (NewRat.touch (hN.base y8) x0 (Touch.three _ (by omega) (by rw [Z0.out]; omega) _ _ _))
  · have hcm : (cmpN m1 m2 == 0) = false := by rw [beq_eq_false_iff_ne]; rcases cmpN_cases m1 m2 with h | h | h <;> omega
    go_wp2
    have bl1 : len (sgn s1 n1 * sgn false m2).natAbs < 1000000000 := by rw [Int.natAbs_mul, sgn_natAbs, sgn_natAbs]; have := len_mul n1 m2; omega
    have bl2 : len (sgn s2 n2 * sgn false m1).natAbs < 1000000000 := by rw [Int.natAbs_mul, sgn_natAbs, sgn_natAbs]; have := len_mul n2 m1; omega
    have bl3 := len_intAdd (sgn s1 n1 * sgn false m2) (sgn s2 n2 * sgn false m1)
    rw [Int.natAbs_mul, Int.natAbs_mul, sgn_natAbs, sgn_natAbs, sgn_natAbs, sgn_natAbs] at bl3
    have bl4 := len_mul n1 m2
    have bl5 := len_mul n2 m1
    have bl6 := len_mul m1 m2
    have tok2 : True := trivial
    have sW : w.heap.size + 3 ≤ w7.heap.size := by have := y7.size; rw [Z0.out] at this; exact this
    go_cut [15] (fun s15 wx => ∃ (bb : Nat) (az : Option Addr) (cz : Nat), s15 = .pointer (some ⟨bb, 0, none⟩) ∧ w.heap.size + 3 ≤ bb ∧ Hid (Arr wx bb 53 [.bool (decide (sgn s1 n1 * sgn false m2 + sgn s2 n2 * sgn false m1 < 0)), .slice az (len (sgn s1 n1 * sgn false m2 + sgn s2 n2 * sgn false m1).natAbs) cz]) ∧ Raw wx az (len (sgn s1 n1 * sgn false m2 + sgn s2 n2 * sgn false m1).natAbs) cz (sgn s1 n1 * sgn false m2 + sgn s2 n2 * sgn false m1).natAbs ∧ Ext w7 wx)
    case first =>
      go_region_held3 (fun w' => w'.cell? ⟨w5.heap.size, 0, none⟩ = some (.bool s1) ∧ w'.cell? ⟨w5.heap.size, 1, none⟩ = some (.slice a1 k1 c1) ∧ w'.cell? ⟨w6.heap.size, 0, none⟩ = some (.bool s2) ∧ w'.cell? ⟨w6.heap.size, 1, none⟩ = some (.slice a2 k2 c2)) (first | exact ⟨p0, p1, q0, q1⟩ | (simp [go_sem, p0, p1, q0, q1, pz, qz]; done) | (simp [go_sem, p0, p1, q0, q1, pz, qz]; omega)) (first
        | (go_at_call 134; have _t := tok2; refine (int_Mul _ _ _ _ _ _ _ _ _ _ _ (H1.ext (by repeat (first | exact Ext.refl _ | exact v10 | exact v9 | exact v8 | refine Ext.trans ?_ hx10 | refine Ext.trans ?_ hx9 | refine Ext.trans ?_ hx8 | refine Ext.drew ?_ | refine Ext.alloc ?_ _ | refine Ext.setCell ?_ (by simp; omega) _))) (G2.ext (by repeat (first | exact Ext.refl _ | exact v10 | exact v9 | exact v8 | refine Ext.trans ?_ hx10 | refine Ext.trans ?_ hx9 | refine Ext.trans ?_ hx8 | refine Ext.drew ?_ | refine Ext.alloc ?_ _ | refine Ext.setCell ?_ (by simp; omega) _))) (by omega) (by omega)).mono ?_; rintro e w8 ⟨a8, c8, rfl, hr8, hf8, hx8⟩; clear tok2 _t; have v8 : Ext w7 w8 := (by repeat (first | exact Ext.refl _ | exact v10 | exact v9 | exact v8 | refine Ext.trans ?_ hx10 | refine Ext.trans ?_ hx9 | refine Ext.trans ?_ hx8 | refine Ext.drew ?_ | refine Ext.alloc ?_ _ | refine Ext.setCell ?_ (by simp; omega) _)); have z8 := v8.size; obtain ⟨p0, p1, p2, p3⟩ := box2 P7 v8; obtain ⟨q0, q1, q2, q3⟩ := box2 Q7 v8; have pz := (P7.ext v8).lt; have qz := (Q7.ext v8).lt; (first | (have RB : Arr w8 w7.heap.size 53 [.bool false, .slice none 0 0] := (Arr.alloc w7.drew 53 [.bool false, .slice none 0 0]).ext hx8; obtain ⟨r0, r1, r2, r3⟩ := box2 RB (Ext.refl _); have rz := RB.lt) | skip))
        | (go_at_call 134; refine (int_Mul _ _ _ _ _ _ _ _ _ _ _ (H2.ext (by repeat (first | exact Ext.refl _ | exact v10 | exact v9 | exact v8 | refine Ext.trans ?_ hx10 | refine Ext.trans ?_ hx9 | refine Ext.trans ?_ hx8 | refine Ext.drew ?_ | refine Ext.alloc ?_ _ | refine Ext.setCell ?_ (by simp; omega) _))) (G1.ext (by repeat (first | exact Ext.refl _ | exact v10 | exact v9 | exact v8 | refine Ext.trans ?_ hx10 | refine Ext.trans ?_ hx9 | refine Ext.trans ?_ hx8 | refine Ext.drew ?_ | refine Ext.alloc ?_ _ | refine Ext.setCell ?_ (by simp; omega) _))) (by omega) (by omega)).mono ?_; rintro e w9 ⟨a9, c9, rfl, hr9, hf9, hx9⟩; have v9 : Ext w7 w9 := (by repeat (first | exact Ext.refl _ | exact v10 | exact v9 | exact v8 | refine Ext.trans ?_ hx10 | refine Ext.trans ?_ hx9 | refine Ext.trans ?_ hx8 | refine Ext.drew ?_ | refine Ext.alloc ?_ _ | refine Ext.setCell ?_ (by simp; omega) _)); have z9 := v9.size; obtain ⟨p0, p1, p2, p3⟩ := box2 P7 v9; obtain ⟨q0, q1, q2, q3⟩ := box2 Q7 v9; have pz := (P7.ext v9).lt; have qz := (Q7.ext v9).lt; (first | (have RB := RB.ext hx9; obtain ⟨r0, r1, r2, r3⟩ := box2 RB (Ext.refl _); have rz := RB.lt) | (have RB := (Arr.alloc w8 53 [.bool false, .slice none 0 0]).ext hx9; obtain ⟨r0, r1, r2, r3⟩ := box2 RB (Ext.refl _); have rz := RB.lt) | skip))
        | (go_at_call 208; refine (int_Add _ _ _ _ _ _ _ _ _ _ _ (hr8.ext (by repeat (first | exact Ext.refl _ | exact v10 | exact v9 | exact v8 | refine Ext.trans ?_ hx10 | refine Ext.trans ?_ hx9 | refine Ext.trans ?_ hx8 | refine Ext.drew ?_ | refine Ext.alloc ?_ _ | refine Ext.setCell ?_ (by simp; omega) _))) (hr9.ext (by repeat (first | exact Ext.refl _ | exact v10 | exact v9 | exact v8 | refine Ext.trans ?_ hx10 | refine Ext.trans ?_ hx9 | refine Ext.trans ?_ hx8 | refine Ext.drew ?_ | refine Ext.alloc ?_ _ | refine Ext.setCell ?_ (by simp; omega) _))) bl1 bl2).mono ?_; rintro e w10 ⟨a10, c10, rfl, hr10, hf10, hx10⟩; have v10 : Ext w7 w10 := (by repeat (first | exact Ext.refl _ | exact v10 | exact v9 | exact v8 | refine Ext.trans ?_ hx10 | refine Ext.trans ?_ hx9 | refine Ext.trans ?_ hx8 | refine Ext.drew ?_ | refine Ext.alloc ?_ _ | refine Ext.setCell ?_ (by simp; omega) _)); have z10 := v10.size; obtain ⟨p0, p1, p2, p3⟩ := box2 P7 v10; obtain ⟨q0, q1, q2, q3⟩ := box2 Q7 v10; have pz := (P7.ext v10).lt; have qz := (Q7.ext v10).lt; (first | (have RB := RB.ext hx10; obtain ⟨r0, r1, r2, r3⟩ := box2 RB (Ext.refl _); have rz := RB.lt) | (have RB := (Arr.alloc w9 53 [.bool false, .slice none 0 0]).ext hx10; obtain ⟨r0, r1, r2, r3⟩ := box2 RB (Ext.refl _); have rz := RB.lt) | skip)))
      all_goals go_wp2_with fail
      all_goals go_meet
      all_goals simp only [sgn_num] at hr10 ⊢
      all_goals first
        | exact ⟨_, a10, c10, rfl, by omega, Arr.alloc _ _ _, hr10.ext ((Ext.refl _).alloc _), (by repeat (first | exact Ext.refl _ | exact v10 | exact v9 | exact v8 | refine Ext.trans ?_ hx10 | refine Ext.trans ?_ hx9 | refine Ext.trans ?_ hx8 | refine Ext.drew ?_ | refine Ext.alloc ?_ _ | refine Ext.setCell ?_ (by simp; omega) _))⟩
        | exact ⟨_, a10, c10, rfl, by omega, (RB.set 0 _).set 1 _, Raw.setCell (Raw.setCell hr10 _ _ (hf10.ne (by first | (simp; done) | (simp; omega) | omega))) _ _ (hf10.ne (by first | (simp; done) | (simp; omega) | omega)), Ext.set2 v10 (by omega) _ _⟩
    case rest =>
      obtain ⟨bb, az, cz, rfl, hb3, hA, hR, hx8⟩ := hcut
      have y8 : Ext W wc := y7.trans hx8
      obtain ⟨k0_0, k0_1, k0_2, f0_0, f0_1, f0_2⟩ := box3 A0 y8
      have z0 := (A0.ext y8).lt
      obtain ⟨k1_0, k1_1, k1_2, f1_0, f1_1, f1_2⟩ := box3 A1 y8
      have z1 := (A1.ext y8).lt
      obtain ⟨k2_0, k2_1, k2_2, f2_0, f2_1, f2_2⟩ := box3 A2 y8
      have z2 := (A2.ext y8).lt
      have A8 := hA.out
      obtain ⟨r0, r1, r2, r3⟩ := box2 A8 (Ext.refl _)
      have nb1 : ¬ (w.heap.size + 1 + 1 = bb) := by omega
      have nb2 : ¬ (bb = w.heap.size + 1 + 1) := by omega
      have nb3 : ¬ (w.heap.size + 2 = bb) := by omega
      have nb4 : ¬ (bb = w.heap.size + 2) := by omega
      have G1 := G1.ext hx8
      have G2 := G2.ext hx8
      go_wp2
      go_region_held3 (fun w' => w'.cell? ⟨bb, 0, none⟩ = some (.bool (decide (sgn s1 n1 * sgn false m2 + sgn s2 n2 * sgn false m1 < 0))) ∧ w'.cell? ⟨bb, 1, none⟩ = some (.slice az (len (sgn s1 n1 * sgn false m2 + sgn s2 n2 * sgn false m1).natAbs) cz)) (first | exact ⟨r0, r1⟩ | (simp [go_sem, r0, r1]; done)) (first
        | (go_at_call 157; refine (nat_Mul _ _ _ _ _ _ _ _ _ (G1.ext (by exact (Ext.refl _).drew)) (G2.ext (by exact (Ext.refl _).drew)) (by omega) (by omega)).mono ?_; rintro e w11 ⟨a11, c11, rfl, hr11, hf11, hx11⟩; obtain ⟨r0, r1, r2, r3⟩ := box2 A8 ((Ext.refl wc).drew.trans hx11); obtain ⟨k0_0, k0_1, k0_2, f0_0, f0_1, f0_2⟩ := box3 A0 ((y8.drew).trans hx11); have z0 := (A0.ext ((y8.drew).trans hx11)).lt; obtain ⟨k1_0, k1_1, k1_2, f1_0, f1_1, f1_2⟩ := box3 A1 ((y8.drew).trans hx11); have z1 := (A1.ext ((y8.drew).trans hx11)).lt; obtain ⟨k2_0, k2_1, k2_2, f2_0, f2_1, f2_2⟩ := box3 A2 ((y8.drew).trans hx11); have z2 := (A2.ext ((y8.drew).trans hx11)).lt)
        | (go_at_call 156; refine (rat_lowest _ _ _ _ _ _ _ _ _ _ ((hR.ext (by exact (Ext.refl _).drew)).ext hx11) hr11 (Nat.mul_pos hm1 hm2) (by omega) (by omega)).mono ?_; intro e wz hN; rw [sgn_num, sgn_false, sgn_false, mkRat_add _ _ _ _ hm1 hm2, HV.out, HV2.out] at hN; obtain ⟨au, cu, au', cu', rfl, hrz, hfz, hrz', hfz', hxz⟩ := id hN; obtain ⟨r0, r1, r2, r3⟩ := box2 A8 (((Ext.refl wc).drew.trans hx11).trans hxz); obtain ⟨k0_0, k0_1, k0_2, f0_0, f0_1, f0_2⟩ := box3 A0 (((y8.drew).trans hx11).trans hxz); have z0 := (A0.ext (((y8.drew).trans hx11).trans hxz)).lt; obtain ⟨k1_0, k1_1, k1_2, f1_0, f1_1, f1_2⟩ := box3 A1 (((y8.drew).trans hx11).trans hxz); have z1 := (A1.ext (((y8.drew).trans hx11).trans hxz)).lt; obtain ⟨k2_0, k2_1, k2_2, f2_0, f2_1, f2_2⟩ := box3 A2 (((y8.drew).trans hx11).trans hxz); have z2 := (A2.ext (((y8.drew).trans hx11).trans hxz)).lt))
      go_wp2
      exact bodyPost_ret (by simp [results, Tryz.results136, go_sem, *]) rfl (NewRat.touch (hN.base ((y8.drew).trans hx11)) x0 (Touch.three _ (by omega) (by rw [Z0.out]; omega) _ _ _))

/-- rational.Add. -/
theorem rat_Add (w : World) (s : Bool) (a b : Option Addr) (k c j d n m : Nat) (h : Raw w a k c n) (g : Raw w b j d m) (s' : Bool) (a' b' : Option Addr) (k' c' j' d' n' m' : Nat) (h' : Raw w a' k' c' n') (g' : Raw w b' j' d' m') (b1 : len n < 100000000) (b2 : len m < 100000000) (b1' : len n' < 100000000) (b2' : len m' < 100000000) :
    Calls Tryz.prog 136 #[.agg #[.bool s, .slice a k c, .slice b j d], .agg #[.bool s', .slice a' k' c', .slice b' j' d']] w (NewRat (mkRat (sgn s n) m + mkRat (sgn s' n') m') w) := by
  by_cases h0 : mkRat (sgn s n) m = 0
  · exact rat_Add_zero1 w _ _ _ _ _ _ _ _ _ h g _ _ _ _ _ _ _ _ _ h' g' b1 b2 b1' b2' h0
  by_cases h0' : mkRat (sgn s' n') m' = 0
  · exact rat_Add_zero2 w _ _ _ _ _ _ _ _ _ h g _ _ _ _ _ _ _ _ _ h' g' b1 b2 b1' b2' h0 h0'
  by_cases ha : n < 2147483648 ∧ m < 2147483648
  · by_cases hb : n' < 2147483648 ∧ m' < 2147483648
    · exact rat_Add_tt w _ _ _ _ _ _ _ _ _ h g _ _ _ _ _ _ _ _ _ h' g' b1 b2 b1' b2' h0 h0' ha hb
    · exact rat_Add_tf w _ _ _ _ _ _ _ _ _ h g _ _ _ _ _ _ _ _ _ h' g' b1 b2 b1' b2' h0 h0' ha hb
  · by_cases hb : n' < 2147483648 ∧ m' < 2147483648
    · exact rat_Add_ft w _ _ _ _ _ _ _ _ _ h g _ _ _ _ _ _ _ _ _ h' g' b1 b2 b1' b2' h0 h0' ha hb
    · exact rat_Add_ff w _ _ _ _ _ _ _ _ _ h g _ _ _ _ _ _ _ _ _ h' g' b1 b2 b1' b2' h0 h0' ha hb

end Go.Proofs.YtgihpfkjpfanmaaGreat


namespace Go.Proofs.YtgihpfkjpfanmaaGreat
open Go.RowKit

theorem Ext.of_touch {w w3 w4 : World} {hi : Nat} (h : Ext w w3) (t : Touch w.heap.size hi w3 w4) : Ext w w4 :=
  ⟨⟨t.os.trans h.below.os, t.tape.trans h.below.tape, t.output.trans h.below.output, by rw [t.size]; exact h.below.size, fun k hk => (t.block k (Or.inl hk)).trans (h.below.block k hk)⟩, Nat.le_trans h.drawn t.drawn⟩

end Go.Proofs.YtgihpfkjpfanmaaGreat


namespace Go.Proofs.YtgihpfkjpfanmaaGreat
open Go.RowKit

/-- The greater number of limbs of numerator and denominator. -/
def rsz (q : Rat) : Nat := max (len q.num.natAbs) (len q.den)
theorem rsz_num (q : Rat) : len q.num.natAbs ≤ rsz q := Nat.le_max_left _ _
theorem rsz_den (q : Rat) : len q.den ≤ rsz q := Nat.le_max_right _ _
theorem rsz_mkRat (x : Int) (y : Nat) : rsz (mkRat x y) ≤ max (max (len x.natAbs) (len y)) 1 := by
  unfold rsz
  by_cases h : 0 < y
  · rw [mkRat_num_natAbs _ _ h, mkRat_den' _ _ h]
    have h1 := len_mono (Nat.div_le_self x.natAbs (Nat.gcd y x.natAbs))
    have h2 := len_mono (Nat.div_le_self y (Nat.gcd y x.natAbs))
    omega
  · obtain rfl : y = 0 := by omega
    rw [Rat.mkRat_zero]; show max (len 0) (len 1) ≤ _; rw [len_zero, len1]; omega
theorem rsz_neg (q : Rat) : rsz (-q) = rsz q := by unfold rsz; rw [Rat.neg_num, Rat.neg_den, Int.natAbs_neg]
theorem rsz_add (p q : Rat) : rsz (p + q) ≤ rsz p + rsz q + 1 := by
  rw [Rat.add_def']
  refine Nat.le_trans (rsz_mkRat _ _) ?_
  have h1 := len_intAdd (p.num * q.den) (q.num * p.den)
  rw [Int.natAbs_mul, Int.natAbs_mul, Int.natAbs_natCast, Int.natAbs_natCast] at h1
  have h2 := len_mul p.num.natAbs q.den
  have h3 := len_mul q.num.natAbs p.den
  have h4 := len_mul p.den q.den
  have a1 := rsz_num p; have a2 := rsz_den p; have a3 := rsz_num q; have a4 := rsz_den q
  omega
theorem rsz_sub (p q : Rat) : rsz (p - q) ≤ rsz p + rsz q + 1 := by
  rw [Rat.sub_eq_add_neg]; have := rsz_add p (-q); rw [rsz_neg] at this; exact this
theorem rsz_mul (p q : Rat) : rsz (p * q) ≤ rsz p + rsz q + 1 := by
  rw [Rat.mul_def']
  refine Nat.le_trans (rsz_mkRat _ _) ?_
  rw [Int.natAbs_mul]
  have h2 := len_mul p.num.natAbs q.num.natAbs
  have h4 := len_mul p.den q.den
  have a1 := rsz_num p; have a2 := rsz_den p; have a3 := rsz_num q; have a4 := rsz_den q
  omega
theorem rsz_int (z : Int) : rsz (z : Rat) = max (len z.natAbs) 1 := by
  unfold rsz; rw [Rat.num_intCast, Rat.den_intCast, len1]
theorem len_natAbs_i64 {z : Int} (h1 : -9223372036854775808 ≤ z) (h2 : z ≤ 9223372036854775807) : len z.natAbs ≤ 2 := len_le_two.2 (by omega)

/-- A rational number as it lies in three cells. -/
structure RVal where
  s : Bool
  a : Option Addr
  k : Nat
  c : Nat
  b : Option Addr
  j : Nat
  d : Nat
def RVal.cells (r : RVal) : List Value := [.bool r.s, .slice r.a r.k r.c, .slice r.b r.j r.d]

/-- The cells r hold the rational number q; numerator and denominator have at most L limbs. -/
def IsRat (w : World) (r : RVal) (q : Rat) (L : Nat) : Prop := ∃ n m, Raw w r.a r.k r.c n ∧ Raw w r.b r.j r.d m ∧ q = mkRat (sgn r.s n) m ∧ len n ≤ L ∧ len m ≤ L

theorem IsRat.ext {w w' : World} {r : RVal} {q : Rat} {L : Nat} (h : IsRat w r q L) (e : Ext w w') : IsRat w' r q L := by
  obtain ⟨n, m, h1, h2, h3⟩ := h; exact ⟨n, m, h1.ext e, h2.ext e, h3⟩
theorem IsRat.mono {w : World} {r : RVal} {q : Rat} {L L' : Nat} (h : IsRat w r q L) (hl : L ≤ L') : IsRat w r q L' := by
  obtain ⟨n, m, h1, h2, h3, h4, h5⟩ := h; exact ⟨n, m, h1, h2, h3, by omega, by omega⟩
theorem IsRat.rsz {w : World} {r : RVal} {q : Rat} {L : Nat} (h : IsRat w r q L) : rsz q ≤ max L 1 := by
  obtain ⟨n, m, h1, h2, rfl, h4, h5⟩ := h
  have := rsz_mkRat (sgn r.s n) m
  rw [sgn_natAbs] at this
  omega

/-- What NewRat says of the cells. -/
theorem NewRat.isRat {q : Rat} {w w' : World} {e : Ending} (h : NewRat q w e w') : ∃ r : RVal, e = .returned (.agg #[.bool r.s, .slice r.a r.k r.c, .slice r.b r.j r.d]) ∧ IsRat w' r q (Go.Proofs.YtgihpfkjpfanmaaGreat.rsz q) ∧ Fr w.heap.size r.a ∧ Fr w.heap.size r.b ∧ Ext w w' := by
  obtain ⟨a, c, a', c', he, hr, hf, hr', hf', hx⟩ := h
  refine ⟨⟨decide (q.num < 0), a, len q.num.natAbs, c, a', len q.den, c'⟩, he, ⟨_, _, hr, hr', ?_, rsz_num q, rsz_den q⟩, hf, hf', hx⟩
  rw [sgn_num, Rat.mkRat_self]

/-- The cells r hold the rational number q in canonical form, in blocks from B on. -/
structure IsCan (w : World) (r : RVal) (q : Rat) (B : Nat) : Prop where
  s : r.s = decide (q.num < 0)
  k : r.k = len q.num.natAbs
  j : r.j = len q.den
  num : Raw w r.a r.k r.c q.num.natAbs
  den : Raw w r.b r.j r.d q.den
  fa : Fr B r.a
  fb : Fr B r.b
theorem IsCan.isRat {w : World} {r : RVal} {q : Rat} {B : Nat} (h : IsCan w r q B) : IsRat w r q (Go.Proofs.YtgihpfkjpfanmaaGreat.rsz q) :=
  ⟨_, _, h.num, h.den, by rw [h.s, sgn_num, Rat.mkRat_self], rsz_num q, rsz_den q⟩
theorem IsCan.ext {w w' : World} {r : RVal} {q : Rat} {B : Nat} (h : IsCan w r q B) (e : Ext w w') : IsCan w' r q B := ⟨h.s, h.k, h.j, h.num.ext e, h.den.ext e, h.fa, h.fb⟩
theorem IsCan.mono {w : World} {r : RVal} {q : Rat} {B B' : Nat} (h : IsCan w r q B) (e : B' ≤ B) : IsCan w r q B' := ⟨h.s, h.k, h.j, h.num, h.den, h.fa.mono e, h.fb.mono e⟩
theorem IsCan.setCell {w : World} {r : RVal} {q : Rat} {B : Nat} (h : IsCan w r q B) (p : Addr) (v : Value) (hp : p.block < B) : IsCan (w.setCell p v) r q B :=
  ⟨h.s, h.k, h.j, h.num.setCell _ _ (h.fa.ne hp), h.den.setCell _ _ (h.fb.ne hp), h.fa, h.fb⟩
theorem NewRat.isCan {q : Rat} {w w' : World} {e : Ending} (h : NewRat q w e w') : ∃ r : RVal, e = .returned (.agg #[.bool r.s, .slice r.a r.k r.c, .slice r.b r.j r.d]) ∧ IsCan w' r q w.heap.size ∧ Ext w w' := by
  obtain ⟨a, c, a', c', he, hr, hf, hr', hf', hx⟩ := h
  exact ⟨⟨decide (q.num < 0), a, len q.num.natAbs, c, a', len q.den, c'⟩, he, ⟨rfl, rfl, rfl, hr, hr', hf, hf'⟩, hx⟩
theorem IsCan.newRat {w w' : World} {r : RVal} {q : Rat} (h : IsCan w' r q w.heap.size) (hx : Ext w w') : NewRat q w (.returned (.agg #[.bool r.s, .slice r.a r.k r.c, .slice r.b r.j r.d])) w' := by
  refine ⟨r.a, r.c, r.b, r.d, by rw [h.s, h.k, h.j], ?_, h.fa, ?_, h.fb, hx⟩
  · have := h.num; rwa [h.k] at this
  · have := h.den; rwa [h.j] at this

/-- The slice '.slice a rs.length c' of rational numbers holds rs, with the values qs. -/
structure Rats (w : World) (a : Option Addr) (c : Nat) (rs : List RVal) (qs : List Rat) (L : Nat) : Prop where
  len : qs.length = rs.length
  le : rs.length ≤ c
  cap : c ≤ 9223372036854775807
  short : rs.length ≤ 1099511627776
  cell : ∀ i (h : i < rs.length), ∃ b o, a = some ⟨b, o, none⟩ ∧ w.cell? ⟨b, o + i * 3, none⟩ = some (.bool rs[i].s) ∧ w.cell? ⟨b, o + i * 3 + 1, none⟩ = some (.slice rs[i].a rs[i].k rs[i].c) ∧ w.cell? ⟨b, o + i * 3 + 2, none⟩ = some (.slice rs[i].b rs[i].j rs[i].d)
  num : ∀ i (h : i < rs.length), IsRat w rs[i] (qs[i]'(by omega)) L

theorem Rats.ext {w w' : World} {a : Option Addr} {c : Nat} {rs : List RVal} {qs : List Rat} {L : Nat} (h : Rats w a c rs qs L) (e : Ext w w') : Rats w' a c rs qs L :=
  ⟨h.len, h.le, h.cap, h.short, fun i hi => by
    obtain ⟨b, o, ha, h0, h1, h2⟩ := h.cell i hi
    exact ⟨b, o, ha, cell_ext e h0, cell_ext e h1, cell_ext e h2⟩, fun i hi => (h.num i hi).ext e⟩
theorem Rats.at {w : World} {a : Option Addr} {c : Nat} {rs : List RVal} {qs : List Rat} {L : Nat} (h : Rats w a c rs qs L) (h0 : 0 < rs.length) : ∃ b o, a = some ⟨b, o, none⟩ := by
  obtain ⟨b, o, ha, _⟩ := h.cell 0 h0; exact ⟨b, o, ha⟩

end Go.Proofs.YtgihpfkjpfanmaaGreat


namespace Go.Proofs.YtgihpfkjpfanmaaGreat
open Go.RowKit

/-- The sum of a list. -/
def qsum (l : List Rat) : Rat := l.foldl (· + ·) 0
theorem qsum_take {l : List Rat} {i : Nat} (h : i < l.length) : qsum (l.take (i + 1)) = qsum (l.take i) + l[i] := by
  unfold qsum; rw [List.take_succ_eq_append_getElem h, List.foldl_append]; rfl

end Go.Proofs.YtgihpfkjpfanmaaGreat


namespace Go.Proofs.YtgihpfkjpfanmaaGreat
open Go.RowKit

def zero3 : List Value := [.bool false, .slice none 0 0, .slice none 0 0]
def zeros3 : Nat → List Value
  | 0 => []
  | n + 1 => zero3 ++ zeros3 n

theorem Tryz.info_rat : (Tryz.prog.info? 55).map (fun i => (i.zero, i.size, i.bytes)) = some (some (.agg zero3.toArray), 3, 56) := by kernel_rfl
theorem Tryz.info_int : (Tryz.prog.info? 3).map (fun i => (i.zero, i.size, i.bytes)) = some (some (.int .i64 0), 1, 8) := by kernel_rfl

/-- Integers as they lie in a block. -/
def i64s (l : List Int) : List Value := l.map (Value.int .i64)
theorem i64s_get (l : List Int) (i : Nat) (h : i < l.length) : (i64s l)[i]? = some (.int .i64 l[i]) := by simp [i64s, h]
theorem i64s_next (A : List Int) (m : Nat) (x : Int) : (i64s (A ++ List.replicate (m + 1) 0)).set A.length (.int .i64 x) = i64s ((A ++ [x]) ++ List.replicate m 0) := by
  unfold i64s
  rw [← List.map_set, List.set_append_right _ _ (by omega), Nat.sub_self, List.replicate_succ, List.set_cons_zero, List.append_assoc]; rfl
theorem i64s_zeros (n : Nat) : List.replicate n (Value.int .i64 0) = i64s (List.replicate n 0) := by simp [i64s]

/-- The cells of rational numbers. -/
def ratCells (l : List RVal) : List Value := l.flatMap RVal.cells
theorem ratCells_length (l : List RVal) : (ratCells l).length = l.length * 3 := by
  induction l with
  | nil => rfl
  | cons r l ih => simp only [ratCells, List.flatMap_cons, List.length_append, RVal.cells, List.length_cons, List.length_nil] at *; omega
theorem ratCells_snoc (l : List RVal) (r : RVal) : ratCells (l ++ [r]) = ratCells l ++ r.cells := by simp [ratCells]
theorem ratCells_get (l : List RVal) (i k : Nat) (h : i < l.length) (hk : k < 3) : (ratCells l)[i * 3 + k]? = (l[i].cells)[k]? := by
  induction l generalizing i with
  | nil => simp at h
  | cons r l ih =>
    have e : ratCells (r :: l) = r.cells ++ ratCells l := by simp [ratCells]
    rw [e]
    have hc : r.cells.length = 3 := rfl
    cases i with
    | zero => rw [List.getElem?_append_left (by omega)]; simp
    | succ i =>
      rw [List.getElem?_append_right (by omega), hc, show (i + 1) * 3 + k - 3 = i * 3 + k from by omega, ih i (by simpa using h)]
      simp
end Go.Proofs.YtgihpfkjpfanmaaGreat
