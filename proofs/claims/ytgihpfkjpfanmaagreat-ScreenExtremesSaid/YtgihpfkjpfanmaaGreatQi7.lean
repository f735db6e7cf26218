/- Texts of the proof: Rat6. -/
import Derived.Test.YtgihpfkjpfanmaaGreatChecked
import Derived.Lib.Strings
import Derived.Lib.Slices
import Derived.Lib.Small
import Derived.Lib.Walk
import Derived.Lib.BitFns
import Derived.KernelRfl
import Derived.WalkKit
import Derived.WalkSpells
import Derived.Sort.Grow
import Derived.Lib.Hide
import Derived.Laws.CopyOwn
import Derived.Laws.BitsAllLaws
import Derived.Deep.QuietTactic
import Derived.BigQuiet
import Derived.Test.YtgihpfkjpfanmaaGreatRows
import Derived.WalkLawsBesides
import Derived.Deep.RegionWith
import Derived.Deep.RegionHeld3
import Derived.Deep.DeepCutAuto
import Derived.Deep.CutBlock
import Derived.IntWalk
import Derived.Deep.LoopGhost
import Derived.Test.YtgihpfkjpfanmaaGreatQi1
import Derived.Test.YtgihpfkjpfanmaaGreatQi2
import Derived.Test.YtgihpfkjpfanmaaGreatQi3
import Derived.Test.YtgihpfkjpfanmaaGreatQi4
import Derived.Test.YtgihpfkjpfanmaaGreatQi5
import Derived.Test.YtgihpfkjpfanmaaGreatQi6
namespace Go.Proofs.YtgihpfkjpfanmaaGreat
open Go.RowKit

/-- -1, 0 or 1. -/
def cmpQ (p q : Rat) : Int := cmpZ (p.num * q.den) (q.num * p.den)
theorem cmpQ_lt {p q : Rat} : cmpQ p q < 0 ↔ p < q := by
  rw [Rat.lt_iff]; unfold cmpQ cmpZ; split
  · simp [*]
  · split <;> simp [*]
theorem cmpQ_gt {p q : Rat} : 0 < cmpQ p q ↔ q < p := by
  rw [Rat.lt_iff]; unfold cmpQ cmpZ; split
  · simp; omega
  · split
    · simp; omega
    · simp; omega
theorem cmpQ_eq {p q : Rat} : cmpQ p q = 0 ↔ p = q := by
  rw [Rat.eq_iff_mul_eq_mul]; unfold cmpQ cmpZ; split
  · simp; omega
  · split
    · simp [*]
    · simp [*]
theorem cmpQ_cases (p q : Rat) : cmpQ p q = -1 ∨ cmpQ p q = 0 ∨ cmpQ p q = 1 := by
  unfold cmpQ cmpZ; split
  · simp
  · split <;> simp
theorem cmpZ_scale (a b c : Int) (h : 0 < c) : cmpZ (a * c) (b * c) = cmpZ a b := by
  unfold cmpZ
  by_cases h1 : a < b
  · rw [if_pos h1, if_pos (Int.mul_lt_mul_of_pos_right h1 h)]
  · have h2 : ¬ a * c < b * c := fun hh => h1 (Int.lt_of_mul_lt_mul_right hh (Int.le_of_lt h))
    rw [if_neg h1, if_neg h2]
    by_cases h3 : a = b
    · rw [if_pos h3, if_pos (by rw [h3])]
    · rw [if_neg h3, if_neg (fun hh => h3 (Int.eq_of_mul_eq_mul_right (by omega) hh))]
theorem mkRat_scaled (x : Int) (y : Nat) (h : 0 < y) : ∃ g : Nat, 0 < g ∧ x = (mkRat x y).num * g ∧ y = (mkRat x y).den * g := by
  obtain ⟨g, h1, h2, h3⟩ := Rat.mkRat_num_den (n := x) (d := y) (by omega) (n' := (mkRat x y).num) (d' := (mkRat x y).den) (z' := (mkRat x y).den_nz) (c := (mkRat x y).reduced) rfl
  exact ⟨g, by omega, h2, h3⟩
theorem cmpQ_mkRat (x x' : Int) (y y' : Nat) (h : 0 < y) (h' : 0 < y') : cmpQ (mkRat x y) (mkRat x' y') = cmpZ (x * y') (x' * y) := by
  obtain ⟨g, g0, e1, e2⟩ := mkRat_scaled x y h
  obtain ⟨g', g0', e1', e2'⟩ := mkRat_scaled x' y' h'
  generalize mkRat x y = p at *
  generalize mkRat x' y' = q at *
  subst e1 e2 e1' e2'
  unfold cmpQ
  rw [← cmpZ_scale _ _ ((g : Int) * (g' : Int)) (Int.mul_pos (by omega) (by omega))]
  congr 1
  · rw [Int.natCast_mul]; simp only [Int.mul_assoc, Int.mul_left_comm, Int.mul_comm]
  · rw [Int.natCast_mul]; simp only [Int.mul_assoc, Int.mul_left_comm, Int.mul_comm]
theorem sign_mul_pos (x : Int) (d : Nat) (h : 0 < d) : (x * (d : Int)).sign = x.sign := by
  have hd : (0 : Int) < (d : Int) := by omega
  rw [Int.sign_mul, Int.sign_eq_one_of_pos hd, Int.mul_one]
theorem cmpQ_sign {p q : Rat} (h : p.num.sign ≠ q.num.sign) : cmpZ p.num.sign q.num.sign = cmpQ p q := by
  have hp := sign_mul_pos p.num q.den (Nat.pos_of_ne_zero q.den_nz)
  have hq := sign_mul_pos q.num p.den (Nat.pos_of_ne_zero p.den_nz)
  unfold cmpQ
  by_cases h1 : p.num.sign < q.num.sign
  · rw [cmpZ_lt h1, cmpZ_lt (sign_lt (by rw [hp, hq]; exact h1))]
  · rw [cmpZ_gt (by omega), cmpZ_gt (sign_lt (by rw [hp, hq]; omega))]

theorem cmp_int_nan (w : World) (x : Int) : Calls Tryz.prog 135 #[.int .i64 x] w fun e w' => e = .returned (.bool false) ∧ w = w' := by
  go_enter Tryz.func135, Tryz.ntmps135
  go_wp2
  go_ret
  exact ⟨by simp, rfl⟩
/-- cmp.Compare. -/
theorem cmp_int (w : World) (x y : Int) : Calls Tryz.prog 69 #[.int .i64 x, .int .i64 y] w fun e w' => e = .returned (.int .i64 (cmpZ x y)) ∧ w = w' := by
  by_cases h1 : x < y
  · have e1 := cmpZ_lt h1
    have E1 := Lib.hid e1; clear e1
    go_enter Tryz.func69, Tryz.ntmps69
    go_wp2_with fail
    refine (cmp_int_nan _ _).mono ?_
    rintro e w' ⟨rfl, rfl⟩
    go_wp2_with fail
    refine (cmp_int_nan _ _).mono ?_
    rintro e w' ⟨rfl, rfl⟩
    go_wp2
    go_ret
    exact ⟨ret_int E1.out.symm, rfl⟩
  · by_cases h2 : y < x
    · have e1 := cmpZ_gt h2
      have E1 := Lib.hid e1; clear e1
      go_enter Tryz.func69, Tryz.ntmps69
      go_wp2_with fail
      refine (cmp_int_nan _ _).mono ?_
      rintro e w' ⟨rfl, rfl⟩
      go_wp2_with fail
      refine (cmp_int_nan _ _).mono ?_
      rintro e w' ⟨rfl, rfl⟩
      go_wp2
      go_ret
      exact ⟨ret_int E1.out.symm, rfl⟩
    · obtain rfl : x = y := by omega
      have e1 : cmpZ x x = 0 := by unfold cmpZ; simp
      have E1 := Lib.hid e1; clear e1
      go_enter Tryz.func69, Tryz.ntmps69
      go_wp2_with fail
      refine (cmp_int_nan _ _).mono ?_
      rintro e w' ⟨rfl, rfl⟩
      go_wp2_with fail
      refine (cmp_int_nan _ _).mono ?_
      rintro e w' ⟨rfl, rfl⟩
      go_wp2
      go_ret
      exact ⟨ret_int E1.out.symm, rfl⟩

theorem cmp_int64_nan (w : World) (x : Int) : Calls Tryz.prog 205 #[.int .i64 x] w fun e w' => e = .returned (.bool false) ∧ w = w' := by
  go_enter Tryz.func205, Tryz.ntmps205
  go_wp2
  go_ret
  exact ⟨by simp, rfl⟩
/-- cmp.Compare. -/
theorem cmp_int64 (w : World) (x y : Int) : Calls Tryz.prog 131 #[.int .i64 x, .int .i64 y] w fun e w' => e = .returned (.int .i64 (cmpZ x y)) ∧ w = w' := by
  by_cases h1 : x < y
  · have e1 := cmpZ_lt h1
    have E1 := Lib.hid e1; clear e1
    go_enter Tryz.func131, Tryz.ntmps131
    go_wp2_with fail
    refine (cmp_int64_nan _ _).mono ?_
    rintro e w' ⟨rfl, rfl⟩
    go_wp2_with fail
    refine (cmp_int64_nan _ _).mono ?_
    rintro e w' ⟨rfl, rfl⟩
    go_wp2
    go_ret
    exact ⟨ret_int E1.out.symm, rfl⟩
  · by_cases h2 : y < x
    · have e1 := cmpZ_gt h2
      have E1 := Lib.hid e1; clear e1
      go_enter Tryz.func131, Tryz.ntmps131
      go_wp2_with fail
      refine (cmp_int64_nan _ _).mono ?_
      rintro e w' ⟨rfl, rfl⟩
      go_wp2_with fail
      refine (cmp_int64_nan _ _).mono ?_
      rintro e w' ⟨rfl, rfl⟩
      go_wp2
      go_ret
      exact ⟨ret_int E1.out.symm, rfl⟩
    · obtain rfl : x = y := by omega
      have e1 : cmpZ x x = 0 := by unfold cmpZ; simp
      have E1 := Lib.hid e1; clear e1
      go_enter Tryz.func131, Tryz.ntmps131
      go_wp2_with fail
      refine (cmp_int64_nan _ _).mono ?_
      rintro e w' ⟨rfl, rfl⟩
      go_wp2_with fail
      refine (cmp_int64_nan _ _).mono ?_
      rintro e w' ⟨rfl, rfl⟩
      go_wp2
      go_ret
      exact ⟨ret_int E1.out.symm, rfl⟩

set_option maxHeartbeats 4000000 in
set_option maxRecDepth 100000 in
/-- rational.Compare. -/
theorem rat_Compare (w : World) (s : Bool) (a b : Option Addr) (k c j d n m : Nat) (h : Raw w a k c n) (g : Raw w b j d m) (s' : Bool) (a' b' : Option Addr) (k' c' j' d' n' m' : Nat) (h' : Raw w a' k' c' n') (g' : Raw w b' j' d' m') (b1 : len n < 100000000) (b2 : len m < 100000000) (b1' : len n' < 100000000) (b2' : len m' < 100000000) :
    Calls Tryz.prog 68 #[.agg #[.bool s, .slice a k c, .slice b j d], .agg #[.bool s', .slice a' k' c', .slice b' j' d']] w fun e w' => e = .returned (.int .i64 (cmpQ (mkRat (sgn s n) m) (mkRat (sgn s' n') m'))) ∧ Ext w w' := by
  by_cases hs : (mkRat (sgn s n) m).num.sign = (mkRat (sgn s' n') m').num.sign
  · have hs' : ((mkRat (sgn s n) m).num.sign != (mkRat (sgn s' n') m').num.sign) = false := by rw [hs]; simp
    have HS := Lib.hid hs; clear hs
    by_cases ha : n < 2147483648 ∧ m < 2147483648
    · by_cases hb : n' < 2147483648 ∧ m' < 2147483648
      · have HA := Lib.hid ha; have HB := Lib.hid hb; clear ha hb
        go_enter Tryz.func68, Tryz.ntmps68
        go_wp2
        obtain ⟨W, hW, x0, Z0, A0, A1⟩ := boxes2 w 55 [.bool s, .slice a k c, .slice b j d] 55 [.bool s', .slice a' k' c', .slice b' j' d']
        rw [← hW]
        clear hW
        obtain ⟨k0_0, k0_1, k0_2, f0_0, f0_1, f0_2⟩ := box3 A0 (Ext.refl _)
        have z0 := (A0.ext (Ext.refl _)).lt
        obtain ⟨k1_0, k1_1, k1_2, f1_0, f1_1, f1_2⟩ := box3 A1 (Ext.refl _)
        have z1 := (A1.ext (Ext.refl _)).lt
        have tok1 : True := trivial
        go_region_held3 (fun w' => w'.cell? ⟨w.heap.size, 0, none⟩ = some (.bool s) ∧ w'.cell? ⟨w.heap.size, 1, none⟩ = some (.slice a k c) ∧ w'.cell? ⟨w.heap.size, 2, none⟩ = some (.slice b j d) ∧ w'.cell? ⟨w.heap.size + 1, 0, none⟩ = some (.bool s') ∧ w'.cell? ⟨w.heap.size + 1, 1, none⟩ = some (.slice a' k' c') ∧ w'.cell? ⟨w.heap.size + 1, 2, none⟩ = some (.slice b' j' d')) (first | exact ⟨k0_0, k0_1, k0_2, k1_0, k1_1, k1_2⟩ | (simp [go_sem, k0_0, k0_1, k0_2, k1_0, k1_1, k1_2])) (first
          | (go_at_call 94; have _t := tok1; refine (rat_Sign _ _ _ _ _ _ _ _ _ _ ((h.ext x0).ext (by exact (Ext.refl _).drew)) ((g.ext x0).ext (by exact (Ext.refl _).drew))).mono ?_; rintro e w1 ⟨rfl, hx1⟩; clear tok1 _t; obtain ⟨k0_0, k0_1, k0_2, f0_0, f0_1, f0_2⟩ := box3 A0 ((((Ext.refl _).drew)).trans hx1); have z0 := (A0.ext ((((Ext.refl _).drew)).trans hx1)).lt; obtain ⟨k1_0, k1_1, k1_2, f1_0, f1_1, f1_2⟩ := box3 A1 ((((Ext.refl _).drew)).trans hx1); have z1 := (A1.ext ((((Ext.refl _).drew)).trans hx1)).lt)
          | (go_at_call 94; refine (rat_Sign _ _ _ _ _ _ _ _ _ _ (((h'.ext x0).ext (by exact (Ext.refl _).drew)).ext hx1) (((g'.ext x0).ext (by exact (Ext.refl _).drew)).ext hx1)).mono ?_; rintro e w2 ⟨rfl, hx2⟩; obtain ⟨k0_0, k0_1, k0_2, f0_0, f0_1, f0_2⟩ := box3 A0 (((((Ext.refl _).drew)).trans hx1).trans hx2); have z0 := (A0.ext (((((Ext.refl _).drew)).trans hx1).trans hx2)).lt; obtain ⟨k1_0, k1_1, k1_2, f1_0, f1_1, f1_2⟩ := box3 A1 (((((Ext.refl _).drew)).trans hx1).trans hx2); have z1 := (A1.ext (((((Ext.refl _).drew)).trans hx1).trans hx2)).lt))
        have y2 : Ext W w2 := ((Ext.refl W).drew.trans hx1).trans hx2
        go_wp2_with fail
        refine (rat_small _ _ _ _ _ _ _ _ _ _ ((h.ext x0).ext y2) ((g.ext x0).ext y2) HA.out.1 HA.out.2).mono ?_
        rintro e w3 ⟨x, y, rfl, i1, i2, i3, i4, hxy, hx3⟩
        have HXY := Lib.hid hxy; clear hxy
        have y3 : Ext W w3 := y2.trans hx3
        obtain ⟨k0_0, k0_1, k0_2, f0_0, f0_1, f0_2⟩ := box3 A0 y3
        have z0 := (A0.ext y3).lt
        obtain ⟨k1_0, k1_1, k1_2, f1_0, f1_1, f1_2⟩ := box3 A1 y3
        have z1 := (A1.ext y3).lt
        go_wp2_with fail
        refine (rat_small _ _ _ _ _ _ _ _ _ _ ((h'.ext x0).ext y3) ((g'.ext x0).ext y3) HB.out.1 HB.out.2).mono ?_
        rintro e w4 ⟨x', y', rfl, i1', i2', i3', i4', hxy', hx4⟩
        have HXY' := Lib.hid hxy'; clear hxy'
        have y4 : Ext W w4 := y3.trans hx4
        obtain ⟨k0_0, k0_1, k0_2, f0_0, f0_1, f0_2⟩ := box3 A0 y4
        have z0 := (A0.ext y4).lt
        obtain ⟨k1_0, k1_1, k1_2, f1_0, f1_1, f1_2⟩ := box3 A1 y4
        have z1 := (A1.ext y4).lt
        obtain ⟨m1, m2⟩ := small_mul i1 i2 (by omega : -2147483648 < (y' : Int)) (by omega)
        obtain ⟨m3, m4⟩ := small_mul i1' i2' (by omega : -2147483648 < (y : Int)) (by omega)
        go_wp2_with fail
        refine (cmp_int64 _ _ _).mono ?_
        rintro e w5 ⟨rfl, rfl⟩
        go_wp2
        go_ret
        exact ⟨ret_int (by rw [← HXY.out, ← HXY'.out, cmpQ_mkRat _ _ _ _ i3 i3']), x0.trans y4⟩
      · have HA := Lib.hid ha; have HB := Lib.hid hb; clear ha hb
        go_enter Tryz.func68, Tryz.ntmps68
        go_wp2
        obtain ⟨W, hW, x0, Z0, A0, A1⟩ := boxes2 w 55 [.bool s, .slice a k c, .slice b j d] 55 [.bool s', .slice a' k' c', .slice b' j' d']
        rw [← hW]
        clear hW
        obtain ⟨k0_0, k0_1, k0_2, f0_0, f0_1, f0_2⟩ := box3 A0 (Ext.refl _)
        have z0 := (A0.ext (Ext.refl _)).lt
        obtain ⟨k1_0, k1_1, k1_2, f1_0, f1_1, f1_2⟩ := box3 A1 (Ext.refl _)
        have z1 := (A1.ext (Ext.refl _)).lt
        have tok1 : True := trivial
        go_region_held3 (fun w' => w'.cell? ⟨w.heap.size, 0, none⟩ = some (.bool s) ∧ w'.cell? ⟨w.heap.size, 1, none⟩ = some (.slice a k c) ∧ w'.cell? ⟨w.heap.size, 2, none⟩ = some (.slice b j d) ∧ w'.cell? ⟨w.heap.size + 1, 0, none⟩ = some (.bool s') ∧ w'.cell? ⟨w.heap.size + 1, 1, none⟩ = some (.slice a' k' c') ∧ w'.cell? ⟨w.heap.size + 1, 2, none⟩ = some (.slice b' j' d')) (first | exact ⟨k0_0, k0_1, k0_2, k1_0, k1_1, k1_2⟩ | (simp [go_sem, k0_0, k0_1, k0_2, k1_0, k1_1, k1_2])) (first
          | (go_at_call 94; have _t := tok1; refine (rat_Sign _ _ _ _ _ _ _ _ _ _ ((h.ext x0).ext (by exact (Ext.refl _).drew)) ((g.ext x0).ext (by exact (Ext.refl _).drew))).mono ?_; rintro e w1 ⟨rfl, hx1⟩; clear tok1 _t; obtain ⟨k0_0, k0_1, k0_2, f0_0, f0_1, f0_2⟩ := box3 A0 ((((Ext.refl _).drew)).trans hx1); have z0 := (A0.ext ((((Ext.refl _).drew)).trans hx1)).lt; obtain ⟨k1_0, k1_1, k1_2, f1_0, f1_1, f1_2⟩ := box3 A1 ((((Ext.refl _).drew)).trans hx1); have z1 := (A1.ext ((((Ext.refl _).drew)).trans hx1)).lt)
          | (go_at_call 94; refine (rat_Sign _ _ _ _ _ _ _ _ _ _ (((h'.ext x0).ext (by exact (Ext.refl _).drew)).ext hx1) (((g'.ext x0).ext (by exact (Ext.refl _).drew)).ext hx1)).mono ?_; rintro e w2 ⟨rfl, hx2⟩; obtain ⟨k0_0, k0_1, k0_2, f0_0, f0_1, f0_2⟩ := box3 A0 (((((Ext.refl _).drew)).trans hx1).trans hx2); have z0 := (A0.ext (((((Ext.refl _).drew)).trans hx1).trans hx2)).lt; obtain ⟨k1_0, k1_1, k1_2, f1_0, f1_1, f1_2⟩ := box3 A1 (((((Ext.refl _).drew)).trans hx1).trans hx2); have z1 := (A1.ext (((((Ext.refl _).drew)).trans hx1).trans hx2)).lt))
        have y2 : Ext W w2 := ((Ext.refl W).drew.trans hx1).trans hx2
        go_wp2_with fail
        refine (rat_small _ _ _ _ _ _ _ _ _ _ ((h.ext x0).ext y2) ((g.ext x0).ext y2) HA.out.1 HA.out.2).mono ?_
        rintro e w3 ⟨x, y, rfl, i1, i2, i3, i4, hxy, hx3⟩
        have HXY := Lib.hid hxy; clear hxy
        have y3 : Ext W w3 := y2.trans hx3
        obtain ⟨k0_0, k0_1, k0_2, f0_0, f0_1, f0_2⟩ := box3 A0 y3
        have z0 := (A0.ext y3).lt
        obtain ⟨k1_0, k1_1, k1_2, f1_0, f1_1, f1_2⟩ := box3 A1 y3
        have z1 := (A1.ext y3).lt
        go_wp2_with fail
        refine (rat_small_no _ _ _ _ _ _ _ _ _ _ ((h'.ext x0).ext y3) ((g'.ext x0).ext y3) HB.out).mono ?_
        rintro e w4 ⟨rfl, hx4⟩
        have y4 : Ext W w4 := y3.trans hx4
        obtain ⟨k0_0, k0_1, k0_2, f0_0, f0_1, f0_2⟩ := box3 A0 y4
        have z0 := (A0.ext y4).lt
        obtain ⟨k1_0, k1_1, k1_2, f1_0, f1_1, f1_2⟩ := box3 A1 y4
        have z1 := (A1.ext y4).lt
        go_wp2_with fail
        refine (rat_parts _ _ _ _ _ _ _ _ _ _ ((h.ext x0).ext y4) ((g.ext x0).ext y4)).mono ?_
        rintro e w5 ⟨s1, a1, k1, c1, n1, e1, j1, d1, m1, rfl, h1, g1, hm1, hv, l1, l2, hx5⟩
        have HV := Lib.hid hv; clear hv
        have y5 : Ext W w5 := y4.trans hx5
        obtain ⟨k0_0, k0_1, k0_2, f0_0, f0_1, f0_2⟩ := box3 A0 y5
        have z0 := (A0.ext y5).lt
        obtain ⟨k1_0, k1_1, k1_2, f1_0, f1_1, f1_2⟩ := box3 A1 y5
        have z1 := (A1.ext y5).lt
        have P5 := Arr.alloc w5 53 [.bool s1, .slice a1 k1 c1]
        have y5' := y5.alloc (.cells #[.bool s1, .slice a1 k1 c1] 53)
        go_wp2_with fail
        refine (rat_parts _ _ _ _ _ _ _ _ _ _ ((h'.ext x0).ext y5') ((g'.ext x0).ext y5')).mono ?_
        rintro e w6 ⟨s2, a2, k2, c2, n2, e2, j2, d2, m2, rfl, h2, g2, hm2, hv2, l3, l4, hx6⟩
        have HV2 := Lib.hid hv2; clear hv2
        have y6 : Ext W w6 := y5'.trans hx6
        obtain ⟨p0, p1, p2, p3⟩ := box2 P5 hx6
        have pz := (P5.ext hx6).lt
        go_wp2
        obtain ⟨V, hV⟩ : ∃ V, V = w6.alloc (.cells #[.bool s2, .slice a2 k2 c2] 53) := ⟨_, rfl⟩
        rw [← hV]
        have yV : Ext w6 V := by rw [hV]; exact (Ext.refl _).alloc _
        have PV : Arr V w5.heap.size 53 [.bool s1, .slice a1 k1 c1] := (P5.ext hx6).ext yV
        have QV : Arr V w6.heap.size 53 [.bool s2, .slice a2 k2 c2] := by rw [hV]; exact Arr.alloc _ _ _
        clear hV
        have H1 := ((h1.ext ((Ext.refl w5).alloc _)).ext hx6).ext yV
        have G1 := ((g1.ext ((Ext.refl w5).alloc _)).ext hx6).ext yV
        have H2 := h2.ext yV
        have G2 := g2.ext yV
        obtain ⟨p0, p1, p2, p3⟩ := box2 PV (Ext.refl _)
        obtain ⟨q0, q1, q2, q3⟩ := box2 QV (Ext.refl _)
        have tok2 : True := trivial
        go_region_held3 (fun w' => w'.cell? ⟨w5.heap.size, 0, none⟩ = some (.bool s1) ∧ w'.cell? ⟨w5.heap.size, 1, none⟩ = some (.slice a1 k1 c1) ∧ w'.cell? ⟨w6.heap.size, 0, none⟩ = some (.bool s2) ∧ w'.cell? ⟨w6.heap.size, 1, none⟩ = some (.slice a2 k2 c2)) (first | exact ⟨p0, p1, q0, q1⟩ | (simp [go_sem, p0, p1, q0, q1])) (first
          | (go_at_call 134; have _t := tok2; refine (int_Mul _ _ _ _ _ _ _ _ _ _ _ (H1.ext (by exact (Ext.refl _).drew)) (G2.ext (by exact (Ext.refl _).drew)) (by omega) (by omega)).mono ?_; rintro e w7 ⟨a7, c7, rfl, hr7, hf7, hx7⟩; clear tok2 _t; obtain ⟨p0, p1, p2, p3⟩ := box2 PV ((Ext.refl V).drew.trans hx7); obtain ⟨q0, q1, q2, q3⟩ := box2 QV ((Ext.refl V).drew.trans hx7))
          | (go_at_call 134; refine (int_Mul _ _ _ _ _ _ _ _ _ _ _ ((H2.ext (by exact (Ext.refl _).drew)).ext hx7) ((G1.ext (by exact (Ext.refl _).drew)).ext hx7) (by omega) (by omega)).mono ?_; rintro e w8 ⟨a8, c8, rfl, hr8, hf8, hx8⟩; obtain ⟨p0, p1, p2, p3⟩ := box2 PV (((Ext.refl V).drew.trans hx7).trans hx8); obtain ⟨q0, q1, q2, q3⟩ := box2 QV (((Ext.refl V).drew.trans hx7).trans hx8))
          | (go_at_call 133; refine (int_Compare _ _ _ _ _ _ _ _ _ _ _ (hr7.ext hx8) hr8).mono ?_; rintro e w9 ⟨rfl, hx9⟩; obtain ⟨p0, p1, p2, p3⟩ := box2 PV ((((Ext.refl V).drew.trans hx7).trans hx8).trans hx9); obtain ⟨q0, q1, q2, q3⟩ := box2 QV ((((Ext.refl V).drew.trans hx7).trans hx8).trans hx9)))
        go_wp2
        go_ret
        refine ⟨ret_int ?_, (((((x0.trans y6).trans yV).drew).trans hx7).trans hx8).trans hx9⟩
        rw [sgn_num, sgn_num, ← HV.out, ← HV2.out, cmpQ_mkRat _ _ _ _ hm1 hm2]; rfl
    · by_cases hb : n' < 2147483648 ∧ m' < 2147483648
      · have HA := Lib.hid ha; have HB := Lib.hid hb; clear ha hb
        go_enter Tryz.func68, Tryz.ntmps68
        go_wp2
        obtain ⟨W, hW, x0, Z0, A0, A1⟩ := boxes2 w 55 [.bool s, .slice a k c, .slice b j d] 55 [.bool s', .slice a' k' c', .slice b' j' d']
        rw [← hW]
        clear hW
        obtain ⟨k0_0, k0_1, k0_2, f0_0, f0_1, f0_2⟩ := box3 A0 (Ext.refl _)
        have z0 := (A0.ext (Ext.refl _)).lt
        obtain ⟨k1_0, k1_1, k1_2, f1_0, f1_1, f1_2⟩ := box3 A1 (Ext.refl _)
        have z1 := (A1.ext (Ext.refl _)).lt
        have tok1 : True := trivial
        go_region_held3 (fun w' => w'.cell? ⟨w.heap.size, 0, none⟩ = some (.bool s) ∧ w'.cell? ⟨w.heap.size, 1, none⟩ = some (.slice a k c) ∧ w'.cell? ⟨w.heap.size, 2, none⟩ = some (.slice b j d) ∧ w'.cell? ⟨w.heap.size + 1, 0, none⟩ = some (.bool s') ∧ w'.cell? ⟨w.heap.size + 1, 1, none⟩ = some (.slice a' k' c') ∧ w'.cell? ⟨w.heap.size + 1, 2, none⟩ = some (.slice b' j' d')) (first | exact ⟨k0_0, k0_1, k0_2, k1_0, k1_1, k1_2⟩ | (simp [go_sem, k0_0, k0_1, k0_2, k1_0, k1_1, k1_2])) (first
          | (go_at_call 94; have _t := tok1; refine (rat_Sign _ _ _ _ _ _ _ _ _ _ ((h.ext x0).ext (by exact (Ext.refl _).drew)) ((g.ext x0).ext (by exact (Ext.refl _).drew))).mono ?_; rintro e w1 ⟨rfl, hx1⟩; clear tok1 _t; obtain ⟨k0_0, k0_1, k0_2, f0_0, f0_1, f0_2⟩ := box3 A0 ((((Ext.refl _).drew)).trans hx1); have z0 := (A0.ext ((((Ext.refl _).drew)).trans hx1)).lt; obtain ⟨k1_0, k1_1, k1_2, f1_0, f1_1, f1_2⟩ := box3 A1 ((((Ext.refl _).drew)).trans hx1); have z1 := (A1.ext ((((Ext.refl _).drew)).trans hx1)).lt)
          | (go_at_call 94; refine (rat_Sign _ _ _ _ _ _ _ _ _ _ (((h'.ext x0).ext (by exact (Ext.refl _).drew)).ext hx1) (((g'.ext x0).ext (by exact (Ext.refl _).drew)).ext hx1)).mono ?_; rintro e w2 ⟨rfl, hx2⟩; obtain ⟨k0_0, k0_1, k0_2, f0_0, f0_1, f0_2⟩ := box3 A0 (((((Ext.refl _).drew)).trans hx1).trans hx2); have z0 := (A0.ext (((((Ext.refl _).drew)).trans hx1).trans hx2)).lt; obtain ⟨k1_0, k1_1, k1_2, f1_0, f1_1, f1_2⟩ := box3 A1 (((((Ext.refl _).drew)).trans hx1).trans hx2); have z1 := (A1.ext (((((Ext.refl _).drew)).trans hx1).trans hx2)).lt))
        have y2 : Ext W w2 := ((Ext.refl W).drew.trans hx1).trans hx2
        go_wp2_with fail
        refine (rat_small_no _ _ _ _ _ _ _ _ _ _ ((h.ext x0).ext y2) ((g.ext x0).ext y2) HA.out).mono ?_
        rintro e w3 ⟨rfl, hx3⟩
        have y3 : Ext W w3 := y2.trans hx3
        obtain ⟨k0_0, k0_1, k0_2, f0_0, f0_1, f0_2⟩ := box3 A0 y3
        have z0 := (A0.ext y3).lt
        obtain ⟨k1_0, k1_1, k1_2, f1_0, f1_1, f1_2⟩ := box3 A1 y3
        have z1 := (A1.ext y3).lt
        go_wp2_with fail
        refine (rat_small _ _ _ _ _ _ _ _ _ _ ((h'.ext x0).ext y3) ((g'.ext x0).ext y3) HB.out.1 HB.out.2).mono ?_
        rintro e w4 ⟨x', y', rfl, i1', i2', i3', i4', hxy', hx4⟩
        have HXY' := Lib.hid hxy'; clear hxy'
        have y4 : Ext W w4 := y3.trans hx4
        obtain ⟨k0_0, k0_1, k0_2, f0_0, f0_1, f0_2⟩ := box3 A0 y4
        have z0 := (A0.ext y4).lt
        obtain ⟨k1_0, k1_1, k1_2, f1_0, f1_1, f1_2⟩ := box3 A1 y4
        have z1 := (A1.ext y4).lt
        go_wp2_with fail
        refine (rat_parts _ _ _ _ _ _ _ _ _ _ ((h.ext x0).ext y4) ((g.ext x0).ext y4)).mono ?_
        rintro e w5 ⟨s1, a1, k1, c1, n1, e1, j1, d1, m1, rfl, h1, g1, hm1, hv, l1, l2, hx5⟩
        have HV := Lib.hid hv; clear hv
        have y5 : Ext W w5 := y4.trans hx5
        obtain ⟨k0_0, k0_1, k0_2, f0_0, f0_1, f0_2⟩ := box3 A0 y5
        have z0 := (A0.ext y5).lt
        obtain ⟨k1_0, k1_1, k1_2, f1_0, f1_1, f1_2⟩ := box3 A1 y5
        have z1 := (A1.ext y5).lt
        have P5 := Arr.alloc w5 53 [.bool s1, .slice a1 k1 c1]
        have y5' := y5.alloc (.cells #[.bool s1, .slice a1 k1 c1] 53)
        go_wp2_with fail
        refine (rat_parts _ _ _ _ _ _ _ _ _ _ ((h'.ext x0).ext y5') ((g'.ext x0).ext y5')).mono ?_
        rintro e w6 ⟨s2, a2, k2, c2, n2, e2, j2, d2, m2, rfl, h2, g2, hm2, hv2, l3, l4, hx6⟩
        have HV2 := Lib.hid hv2; clear hv2
        have y6 : Ext W w6 := y5'.trans hx6
        obtain ⟨p0, p1, p2, p3⟩ := box2 P5 hx6
        have pz := (P5.ext hx6).lt
        go_wp2
        obtain ⟨V, hV⟩ : ∃ V, V = w6.alloc (.cells #[.bool s2, .slice a2 k2 c2] 53) := ⟨_, rfl⟩
        rw [← hV]
        have yV : Ext w6 V := by rw [hV]; exact (Ext.refl _).alloc _
        have PV : Arr V w5.heap.size 53 [.bool s1, .slice a1 k1 c1] := (P5.ext hx6).ext yV
        have QV : Arr V w6.heap.size 53 [.bool s2, .slice a2 k2 c2] := by rw [hV]; exact Arr.alloc _ _ _
        clear hV
        have H1 := ((h1.ext ((Ext.refl w5).alloc _)).ext hx6).ext yV
        have G1 := ((g1.ext ((Ext.refl w5).alloc _)).ext hx6).ext yV
        have H2 := h2.ext yV
        have G2 := g2.ext yV
        obtain ⟨p0, p1, p2, p3⟩ := box2 PV (Ext.refl _)
        obtain ⟨q0, q1, q2, q3⟩ := box2 QV (Ext.refl _)
        have tok2 : True := trivial
        go_region_held3 (fun w' => w'.cell? ⟨w5.heap.size, 0, none⟩ = some (.bool s1) ∧ w'.cell? ⟨w5.heap.size, 1, none⟩ = some (.slice a1 k1 c1) ∧ w'.cell? ⟨w6.heap.size, 0, none⟩ = some (.bool s2) ∧ w'.cell? ⟨w6.heap.size, 1, none⟩ = some (.slice a2 k2 c2)) (first | exact ⟨p0, p1, q0, q1⟩ | (simp [go_sem, p0, p1, q0, q1])) (first
          | (go_at_call 134; have _t := tok2; refine (int_Mul _ _ _ _ _ _ _ _ _ _ _ (H1.ext (by exact (Ext.refl _).drew)) (G2.ext (by exact (Ext.refl _).drew)) (by omega) (by omega)).mono ?_; rintro e w7 ⟨a7, c7, rfl, hr7, hf7, hx7⟩; clear tok2 _t; obtain ⟨p0, p1, p2, p3⟩ := box2 PV ((Ext.refl V).drew.trans hx7); obtain ⟨q0, q1, q2, q3⟩ := box2 QV ((Ext.refl V).drew.trans hx7))
          | (go_at_call 134; refine (int_Mul _ _ _ _ _ _ _ _ _ _ _ ((H2.ext (by exact (Ext.refl _).drew)).ext hx7) ((G1.ext (by exact (Ext.refl _).drew)).ext hx7) (by omega) (by omega)).mono ?_; rintro e w8 ⟨a8, c8, rfl, hr8, hf8, hx8⟩; obtain ⟨p0, p1, p2, p3⟩ := box2 PV (((Ext.refl V).drew.trans hx7).trans hx8); obtain ⟨q0, q1, q2, q3⟩ := box2 QV (((Ext.refl V).drew.trans hx7).trans hx8))
          | (go_at_call 133; refine (int_Compare _ _ _ _ _ _ _ _ _ _ _ (hr7.ext hx8) hr8).mono ?_; rintro e w9 ⟨rfl, hx9⟩; obtain ⟨p0, p1, p2, p3⟩ := box2 PV ((((Ext.refl V).drew.trans hx7).trans hx8).trans hx9); obtain ⟨q0, q1, q2, q3⟩ := box2 QV ((((Ext.refl V).drew.trans hx7).trans hx8).trans hx9)))
        go_wp2
        go_ret
        refine ⟨ret_int ?_, (((((x0.trans y6).trans yV).drew).trans hx7).trans hx8).trans hx9⟩
        rw [sgn_num, sgn_num, ← HV.out, ← HV2.out, cmpQ_mkRat _ _ _ _ hm1 hm2]; rfl
      · have HA := Lib.hid ha; have HB := Lib.hid hb; clear ha hb
        go_enter Tryz.func68, Tryz.ntmps68
        go_wp2
        obtain ⟨W, hW, x0, Z0, A0, A1⟩ := boxes2 w 55 [.bool s, .slice a k c, .slice b j d] 55 [.bool s', .slice a' k' c', .slice b' j' d']
        rw [← hW]
        clear hW
        obtain ⟨k0_0, k0_1, k0_2, f0_0, f0_1, f0_2⟩ := box3 A0 (Ext.refl _)
        have z0 := (A0.ext (Ext.refl _)).lt
        obtain ⟨k1_0, k1_1, k1_2, f1_0, f1_1, f1_2⟩ := box3 A1 (Ext.refl _)
        have z1 := (A1.ext (Ext.refl _)).lt
        have tok1 : True := trivial
        go_region_held3 (fun w' => w'.cell? ⟨w.heap.size, 0, none⟩ = some (.bool s) ∧ w'.cell? ⟨w.heap.size, 1, none⟩ = some (.slice a k c) ∧ w'.cell? ⟨w.heap.size, 2, none⟩ = some (.slice b j d) ∧ w'.cell? ⟨w.heap.size + 1, 0, none⟩ = some (.bool s') ∧ w'.cell? ⟨w.heap.size + 1, 1, none⟩ = some (.slice a' k' c') ∧ w'.cell? ⟨w.heap.size + 1, 2, none⟩ = some (.slice b' j' d')) (first | exact ⟨k0_0, k0_1, k0_2, k1_0, k1_1, k1_2⟩ | (simp [go_sem, k0_0, k0_1, k0_2, k1_0, k1_1, k1_2])) (first
          | (go_at_call 94; have _t := tok1; refine (rat_Sign _ _ _ _ _ _ _ _ _ _ ((h.ext x0).ext (by exact (Ext.refl _).drew)) ((g.ext x0).ext (by exact (Ext.refl _).drew))).mono ?_; rintro e w1 ⟨rfl, hx1⟩; clear tok1 _t; obtain ⟨k0_0, k0_1, k0_2, f0_0, f0_1, f0_2⟩ := box3 A0 ((((Ext.refl _).drew)).trans hx1); have z0 := (A0.ext ((((Ext.refl _).drew)).trans hx1)).lt; obtain ⟨k1_0, k1_1, k1_2, f1_0, f1_1, f1_2⟩ := box3 A1 ((((Ext.refl _).drew)).trans hx1); have z1 := (A1.ext ((((Ext.refl _).drew)).trans hx1)).lt)
          | (go_at_call 94; refine (rat_Sign _ _ _ _ _ _ _ _ _ _ (((h'.ext x0).ext (by exact (Ext.refl _).drew)).ext hx1) (((g'.ext x0).ext (by exact (Ext.refl _).drew)).ext hx1)).mono ?_; rintro e w2 ⟨rfl, hx2⟩; obtain ⟨k0_0, k0_1, k0_2, f0_0, f0_1, f0_2⟩ := box3 A0 (((((Ext.refl _).drew)).trans hx1).trans hx2); have z0 := (A0.ext (((((Ext.refl _).drew)).trans hx1).trans hx2)).lt; obtain ⟨k1_0, k1_1, k1_2, f1_0, f1_1, f1_2⟩ := box3 A1 (((((Ext.refl _).drew)).trans hx1).trans hx2); have z1 := (A1.ext (((((Ext.refl _).drew)).trans hx1).trans hx2)).lt))
        have y2 : Ext W w2 := ((Ext.refl W).drew.trans hx1).trans hx2
        go_wp2_with fail
        refine (rat_small_no _ _ _ _ _ _ _ _ _ _ ((h.ext x0).ext y2) ((g.ext x0).ext y2) HA.out).mono ?_
        rintro e w3 ⟨rfl, hx3⟩
        have y3 : Ext W w3 := y2.trans hx3
        obtain ⟨k0_0, k0_1, k0_2, f0_0, f0_1, f0_2⟩ := box3 A0 y3
        have z0 := (A0.ext y3).lt
        obtain ⟨k1_0, k1_1, k1_2, f1_0, f1_1, f1_2⟩ := box3 A1 y3
        have z1 := (A1.ext y3).lt
        go_wp2_with fail
        refine (rat_small_no _ _ _ _ _ _ _ _ _ _ ((h'.ext x0).ext y3) ((g'.ext x0).ext y3) HB.out).mono ?_
        rintro e w4 ⟨rfl, hx4⟩
        have y4 : Ext W w4 := y3.trans hx4
        obtain ⟨k0_0, k0_1, k0_2, f0_0, f0_1, f0_2⟩ := box3 A0 y4
        have z0 := (A0.ext y4).lt
        obtain ⟨k1_0, k1_1, k1_2, f1_0, f1_1, f1_2⟩ := box3 A1 y4
        have z1 := (A1.ext y4).lt
        go_wp2_with fail
        refine (rat_parts _ _ _ _ _ _ _ _ _ _ ((h.ext x0).ext y4) ((g.ext x0).ext y4)).mono ?_
        rintro e w5 ⟨s1, a1, k1, c1, n1, e1, j1, d1, m1, rfl, h1, g1, hm1, hv, l1, l2, hx5⟩
        have HV := Lib.hid hv; clear hv
        have y5 : Ext W w5 := y4.trans hx5
        obtain ⟨k0_0, k0_1, k0_2, f0_0, f0_1, f0_2⟩ := box3 A0 y5
        have z0 := (A0.ext y5).lt
        obtain ⟨k1_0, k1_1, k1_2, f1_0, f1_1, f1_2⟩ := box3 A1 y5
        have z1 := (A1.ext y5).lt
        have P5 := Arr.alloc w5 53 [.bool s1, .slice a1 k1 c1]
        have y5' := y5.alloc (.cells #[.bool s1, .slice a1 k1 c1] 53)
        go_wp2_with fail
        refine (rat_parts _ _ _ _ _ _ _ _ _ _ ((h'.ext x0).ext y5') ((g'.ext x0).ext y5')).mono ?_
        rintro e w6 ⟨s2, a2, k2, c2, n2, e2, j2, d2, m2, rfl, h2, g2, hm2, hv2, l3, l4, hx6⟩
        have HV2 := Lib.hid hv2; clear hv2
        have y6 : Ext W w6 := y5'.trans hx6
        obtain ⟨p0, p1, p2, p3⟩ := box2 P5 hx6
        have pz := (P5.ext hx6).lt
        go_wp2
        obtain ⟨V, hV⟩ : ∃ V, V = w6.alloc (.cells #[.bool s2, .slice a2 k2 c2] 53) := ⟨_, rfl⟩
        rw [← hV]
        have yV : Ext w6 V := by rw [hV]; exact (Ext.refl _).alloc _
        have PV : Arr V w5.heap.size 53 [.bool s1, .slice a1 k1 c1] := (P5.ext hx6).ext yV
        have QV : Arr V w6.heap.size 53 [.bool s2, .slice a2 k2 c2] := by rw [hV]; exact Arr.alloc _ _ _
        clear hV
        have H1 := ((h1.ext ((Ext.refl w5).alloc _)).ext hx6).ext yV
        have G1 := ((g1.ext ((Ext.refl w5).alloc _)).ext hx6).ext yV
        have H2 := h2.ext yV
        have G2 := g2.ext yV
        obtain ⟨p0, p1, p2, p3⟩ := box2 PV (Ext.refl _)
        obtain ⟨q0, q1, q2, q3⟩ := box2 QV (Ext.refl _)
        have tok2 : True := trivial
        go_region_held3 (fun w' => w'.cell? ⟨w5.heap.size, 0, none⟩ = some (.bool s1) ∧ w'.cell? ⟨w5.heap.size, 1, none⟩ = some (.slice a1 k1 c1) ∧ w'.cell? ⟨w6.heap.size, 0, none⟩ = some (.bool s2) ∧ w'.cell? ⟨w6.heap.size, 1, none⟩ = some (.slice a2 k2 c2)) (first | exact ⟨p0, p1, q0, q1⟩ | (simp [go_sem, p0, p1, q0, q1])) (first
          | (go_at_call 134; have _t := tok2; refine (int_Mul _ _ _ _ _ _ _ _ _ _ _ (H1.ext (by exact (Ext.refl _).drew)) (G2.ext (by exact (Ext.refl _).drew)) (by omega) (by omega)).mono ?_; rintro e w7 ⟨a7, c7, rfl, hr7, hf7, hx7⟩; clear tok2 _t; obtain ⟨p0, p1, p2, p3⟩ := box2 PV ((Ext.refl V).drew.trans hx7); obtain ⟨q0, q1, q2, q3⟩ := box2 QV ((Ext.refl V).drew.trans hx7))
          | (go_at_call 134; refine (int_Mul _ _ _ _ _ _ _ _ _ _ _ ((H2.ext (by exact (Ext.refl _).drew)).ext hx7) ((G1.ext (by exact (Ext.refl _).drew)).ext hx7) (by omega) (by omega)).mono ?_; rintro e w8 ⟨a8, c8, rfl, hr8, hf8, hx8⟩; obtain ⟨p0, p1, p2, p3⟩ := box2 PV (((Ext.refl V).drew.trans hx7).trans hx8); obtain ⟨q0, q1, q2, q3⟩ := box2 QV (((Ext.refl V).drew.trans hx7).trans hx8))
          | (go_at_call 133; refine (int_Compare _ _ _ _ _ _ _ _ _ _ _ (hr7.ext hx8) hr8).mono ?_; rintro e w9 ⟨rfl, hx9⟩; obtain ⟨p0, p1, p2, p3⟩ := box2 PV ((((Ext.refl V).drew.trans hx7).trans hx8).trans hx9); obtain ⟨q0, q1, q2, q3⟩ := box2 QV ((((Ext.refl V).drew.trans hx7).trans hx8).trans hx9)))
        go_wp2
        go_ret
        refine ⟨ret_int ?_, (((((x0.trans y6).trans yV).drew).trans hx7).trans hx8).trans hx9⟩
        rw [sgn_num, sgn_num, ← HV.out, ← HV2.out, cmpQ_mkRat _ _ _ _ hm1 hm2]; rfl
  · have hs' : ((mkRat (sgn s n) m).num.sign != (mkRat (sgn s' n') m').num.sign) = true := by rw [bne_iff_ne]; exact hs
    have e1 := cmpQ_sign hs
    have E1 := Lib.hid e1; clear e1 hs
    go_enter Tryz.func68, Tryz.ntmps68
    go_wp2
    obtain ⟨W, hW, x0, Z0, A0, A1⟩ := boxes2 w 55 [.bool s, .slice a k c, .slice b j d] 55 [.bool s', .slice a' k' c', .slice b' j' d']
    rw [← hW]
    clear hW
    obtain ⟨k0_0, k0_1, k0_2, f0_0, f0_1, f0_2⟩ := box3 A0 (Ext.refl _)
    have z0 := (A0.ext (Ext.refl _)).lt
    obtain ⟨k1_0, k1_1, k1_2, f1_0, f1_1, f1_2⟩ := box3 A1 (Ext.refl _)
    have z1 := (A1.ext (Ext.refl _)).lt
    have tok1 : True := trivial
    go_region_held3 (fun w' => w'.cell? ⟨w.heap.size, 0, none⟩ = some (.bool s) ∧ w'.cell? ⟨w.heap.size, 1, none⟩ = some (.slice a k c) ∧ w'.cell? ⟨w.heap.size, 2, none⟩ = some (.slice b j d) ∧ w'.cell? ⟨w.heap.size + 1, 0, none⟩ = some (.bool s') ∧ w'.cell? ⟨w.heap.size + 1, 1, none⟩ = some (.slice a' k' c') ∧ w'.cell? ⟨w.heap.size + 1, 2, none⟩ = some (.slice b' j' d')) (first | exact ⟨k0_0, k0_1, k0_2, k1_0, k1_1, k1_2⟩ | (simp [go_sem, k0_0, k0_1, k0_2, k1_0, k1_1, k1_2])) (first
      | (go_at_call 94; have _t := tok1; refine (rat_Sign _ _ _ _ _ _ _ _ _ _ ((h.ext x0).ext (by exact (Ext.refl _).drew)) ((g.ext x0).ext (by exact (Ext.refl _).drew))).mono ?_; rintro e w1 ⟨rfl, hx1⟩; clear tok1 _t; obtain ⟨k0_0, k0_1, k0_2, f0_0, f0_1, f0_2⟩ := box3 A0 ((((Ext.refl _).drew)).trans hx1); have z0 := (A0.ext ((((Ext.refl _).drew)).trans hx1)).lt; obtain ⟨k1_0, k1_1, k1_2, f1_0, f1_1, f1_2⟩ := box3 A1 ((((Ext.refl _).drew)).trans hx1); have z1 := (A1.ext ((((Ext.refl _).drew)).trans hx1)).lt)
      | (go_at_call 94; refine (rat_Sign _ _ _ _ _ _ _ _ _ _ (((h'.ext x0).ext (by exact (Ext.refl _).drew)).ext hx1) (((g'.ext x0).ext (by exact (Ext.refl _).drew)).ext hx1)).mono ?_; rintro e w2 ⟨rfl, hx2⟩; obtain ⟨k0_0, k0_1, k0_2, f0_0, f0_1, f0_2⟩ := box3 A0 (((((Ext.refl _).drew)).trans hx1).trans hx2); have z0 := (A0.ext (((((Ext.refl _).drew)).trans hx1).trans hx2)).lt; obtain ⟨k1_0, k1_1, k1_2, f1_0, f1_1, f1_2⟩ := box3 A1 (((((Ext.refl _).drew)).trans hx1).trans hx2); have z1 := (A1.ext (((((Ext.refl _).drew)).trans hx1).trans hx2)).lt))
    have y2 : Ext W w2 := ((Ext.refl W).drew.trans hx1).trans hx2
    go_wp2_with fail
    refine (cmp_int _ _ _).mono ?_
    rintro e w3 ⟨rfl, rfl⟩
    go_wp2
    go_ret
    exact ⟨ret_int E1.out, x0.trans y2⟩

end Go.Proofs.YtgihpfkjpfanmaaGreat
