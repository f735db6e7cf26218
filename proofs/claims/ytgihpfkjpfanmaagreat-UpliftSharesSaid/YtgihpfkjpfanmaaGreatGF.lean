/- Texts of the proof: Rat5, Rat6, Rat7. -/
import Derived.Test.YtgihpfkjpfanmaaGreatGE
import Derived.Deep.DeepCutAuto
/- Contracts of rational.Neg, Mul, Div. -/
namespace Go.Proofs.YtgihpfkjpfanmaaGreat
open Go.RowKit

theorem Raw.setNew {w1 w : World} {a : Option Addr} {k c n : Nat} (h : Raw w1 a k c n) (h2 : Raw w a k c n) (p : Addr) (v : Value) (hp : w1.heap.size ≤ p.block) : Raw (w.setCell p v) a k c n := by
  obtain ⟨l, e1, e2, hl⟩ := h2
  obtain ⟨l', e1', _, hl'⟩ := h
  refine ⟨l, e1, e2, hl.le, hl.cap, hl.short, hl.nul, hl.small, fun i hi => ?_⟩
  obtain ⟨b, o, ha, hc⟩ := hl.cell i hi
  obtain ⟨b', o', ha', hc'⟩ := hl'.cell i (by omega)
  refine ⟨b, o, ha, ?_⟩
  rw [ha] at ha'; cases ha'
  have := block_lt hc'
  rw [World.cell?_setCell_other _ _ _ _ (by intro e; rw [e] at hp; simp only at this hp; omega)]
  exact hc

theorem sgn_num (z : Int) : sgn (decide (z < 0)) z.natAbs = z := by
  unfold sgn; by_cases h : z < 0 <;> simp [h] <;> omega

theorem small_mul {x1 x2 : Int} (h1 : -2147483648 < x1) (h2 : x1 < 2147483648) (h3 : -2147483648 < x2) (h4 : x2 < 2147483648) : -4611686018427387904 ≤ x1 * x2 ∧ x1 * x2 ≤ 4611686018427387904 := by
  have e : (x1 * x2).natAbs ≤ 2147483648 * 2147483648 := by rw [Int.natAbs_mul]; exact Nat.mul_le_mul (by omega) (by omega)
  omega
theorem small_mul_nat {y1 y2 : Nat} (h1 : 0 < y1) (h2 : y1 < 2147483648) (h3 : 0 < y2) (h4 : y2 < 2147483648) : 0 < y1 * y2 ∧ y1 * y2 ≤ 4611686018427387904 := by
  have e : y1 * y2 ≤ 2147483648 * 2147483648 := Nat.mul_le_mul (by omega) (by omega)
  exact ⟨Nat.mul_pos h1 h3, by omega⟩
theorem len_mul (n m : Nat) : len (n * m) ≤ len n + len m := by
  rw [len_le, Nat.pow_add]
  exact Nat.mul_lt_mul'' (lt_pow_len n) (lt_pow_len m)
theorem len_add (n m : Nat) : len (n + m) ≤ max (len n) (len m) + 1 := by
  rw [len_le, Nat.pow_succ]
  have h1 : n < 4294967296 ^ (max (len n) (len m)) := len_le.1 (Nat.le_max_left _ _)
  have h2 : m < 4294967296 ^ (max (len n) (len m)) := len_le.1 (Nat.le_max_right _ _)
  omega

set_option maxHeartbeats 1000000 in
/-- rational.Neg. -/
theorem rat_Neg (w : World) (s : Bool) (a b : Option Addr) (k c j d n m : Nat) (h : Raw w a k c n) (g : Raw w b j d m) (b1 : len n < 100000000) (b2 : len m < 100000000) :
    Calls Tryz.prog 81 #[.agg #[.bool s, .slice a k c, .slice b j d]] w (NewRat (-(mkRat (sgn s n) m)) w) := by
  generalize hq : mkRat (sgn s n) m = q
  go_enter Tryz.func81, Tryz.ntmps81
  go_wp2_with fail
  obtain ⟨W, hW, x0, Z0, A0, A1⟩ := boxes2 w 55 [.bool s, .slice a k c, .slice b j d] 55 [.bool false, .slice none 0 0, .slice none 0 0]
  rw [← hW]
  clear hW
  obtain ⟨k0_0, k0_1, k0_2, f0_0, f0_1, f0_2⟩ := box3 A0 (Ext.refl _)
  have z0 := (A0.ext (Ext.refl _)).lt
  obtain ⟨k1_0, k1_1, k1_2, f1_0, f1_1, f1_2⟩ := box3 A1 (Ext.refl _)
  have z1 := (A1.ext (Ext.refl _)).lt
  refine (rat_Norm _ _ _ _ _ _ _ _ _ _ (h.ext x0) (g.ext x0) b1 b2).mono ?_
  rw [hq]
  rintro e w1 ⟨a1, c1, a2, c2, rfl, hr1, hf1, hr2, hf2, hx1⟩
  obtain ⟨k0_0, k0_1, k0_2, f0_0, f0_1, f0_2⟩ := box3 A0 hx1
  have z0 := (A0.ext hx1).lt
  obtain ⟨k1_0, k1_1, k1_2, f1_0, f1_1, f1_2⟩ := box3 A1 hx1
  have z1 := (A1.ext hx1).lt
  have P1 := Arr.alloc w1 55 [.bool (decide (q.num < 0)), .slice a1 (len q.num.natAbs) c1, .slice a2 (len q.den) c2]
  go_wp2_with fail
  refine (int_Neg _ _ _ _ _ _ (hr1.ext ((Ext.refl _).alloc _))).mono ?_
  rw [sgn_num]
  rintro e w2 ⟨a3, c3, rfl, hr3, hf3, hx2⟩
  obtain ⟨p0, p1, p2, p3, p4, p5⟩ := box3 P1 hx2
  have pz := (P1.ext hx2).lt
  obtain ⟨k0_0, k0_1, k0_2, f0_0, f0_1, f0_2⟩ := box3 A0 ((hx1.alloc _).trans hx2)
  have z0 := (A0.ext ((hx1.alloc _).trans hx2)).lt
  obtain ⟨k1_0, k1_1, k1_2, f1_0, f1_1, f1_2⟩ := box3 A1 ((hx1.alloc _).trans hx2)
  have z1 := (A1.ext ((hx1.alloc _).trans hx2)).lt
  go_wp2
  have E : Ext w w2 := x0.trans ((hx1.alloc _).trans hx2)
  refine bodyPost_ret (v := .agg #[.bool (decide ((-q).num < 0)), .slice a3 (len (-q).num.natAbs) c3, .slice a2 (len (-q).den) c2]) (by simp [results, Tryz.results81, go_sem, *]) rfl ?_
  refine ⟨a3, c3, a2, c2, rfl, ?_, hf3.mono (by have := (x0.trans hx1).size; simp; omega), ?_, hf2.mono x0.size, ?_⟩
  · refine Raw.setCell (Raw.setCell (Raw.setCell (Raw.setCell (Raw.setCell hr3 _ _ ?_) _ _ ?_) _ _ ?_) _ _ ?_) _ _ ?_ <;> (refine hf3.ne ?_; simp; try omega)
  · have d1 := (hr2.ext ((Ext.refl _).alloc _)).ext hx2
    have d2 := hr2.setNew d1 ⟨w1.heap.size, 0, none⟩ (.bool (decide (0 < q.num))) (Nat.le_refl _)
    have d3 := hr2.setNew d2 ⟨w1.heap.size, 1, none⟩ (.slice a3 (len q.num.natAbs) c3) (Nat.le_refl _)
    exact d3.touch (Touch.three (lo := w.heap.size) (hi := W.heap.size) _ (by omega) (by rw [Z0.out]; omega) _ _ _) hf2.out
  · exact Ext.set3 (Ext.set2 E (by have := (x0.trans hx1).size; omega) _ _) (by omega) _ _ _

set_option maxHeartbeats 1000000 in
/-- rational.Mul, small numbers. -/
theorem rat_Mul_small (w : World) (s : Bool) (a b : Option Addr) (k c j d n m : Nat) (h : Raw w a k c n) (g : Raw w b j d m) (s' : Bool) (a' b' : Option Addr) (k' c' j' d' n' m' : Nat) (h' : Raw w a' k' c' n') (g' : Raw w b' j' d' m') (hn : n < 2147483648) (hm : m < 2147483648) (hn' : n' < 2147483648) (hm' : m' < 2147483648) :
    Calls Tryz.prog 96 #[.agg #[.bool s, .slice a k c, .slice b j d], .agg #[.bool s', .slice a' k' c', .slice b' j' d']] w (NewRat (mkRat (sgn s n) m * mkRat (sgn s' n') m') w) := by
  have HN := Lib.hid hn; have HM := Lib.hid hm; have HN' := Lib.hid hn'; have HM' := Lib.hid hm'; clear hn hm hn' hm'
  go_enter Tryz.func96, Tryz.ntmps96
  go_wp2_with fail
  obtain ⟨W, hW, x0, Z0, A0, A1, A2⟩ := boxes3 w 55 [.bool s, .slice a k c, .slice b j d] 55 [.bool s', .slice a' k' c', .slice b' j' d'] 55 [.bool false, .slice none 0 0, .slice none 0 0]
  rw [← hW]
  clear hW
  obtain ⟨k0_0, k0_1, k0_2, f0_0, f0_1, f0_2⟩ := box3 A0 (Ext.refl _)
  have z0 := (A0.ext (Ext.refl _)).lt
  obtain ⟨k1_0, k1_1, k1_2, f1_0, f1_1, f1_2⟩ := box3 A1 (Ext.refl _)
  have z1 := (A1.ext (Ext.refl _)).lt
  obtain ⟨k2_0, k2_1, k2_2, f2_0, f2_1, f2_2⟩ := box3 A2 (Ext.refl _)
  have z2 := (A2.ext (Ext.refl _)).lt
  refine (rat_small _ _ _ _ _ _ _ _ _ _ (h.ext x0) (g.ext x0) HN.out HM.out).mono ?_
  rintro e w1 ⟨x, y, rfl, hx1, hx2, hy1, hy2, hxy, hx⟩
  have HXY := Lib.hid hxy; clear hxy
  obtain ⟨k0_0, k0_1, k0_2, f0_0, f0_1, f0_2⟩ := box3 A0 hx
  have z0 := (A0.ext hx).lt
  obtain ⟨k1_0, k1_1, k1_2, f1_0, f1_1, f1_2⟩ := box3 A1 hx
  have z1 := (A1.ext hx).lt
  obtain ⟨k2_0, k2_1, k2_2, f2_0, f2_1, f2_2⟩ := box3 A2 hx
  have z2 := (A2.ext hx).lt
  go_wp2_with fail
  refine (rat_small _ _ _ _ _ _ _ _ _ _ ((h'.ext x0).ext hx) ((g'.ext x0).ext hx) HN'.out HM'.out).mono ?_
  rintro e w2 ⟨x', y', rfl, hx1', hx2', hy1', hy2', hxy', hx'⟩
  have HXY' := Lib.hid hxy'; clear hxy'
  obtain ⟨k0_0, k0_1, k0_2, f0_0, f0_1, f0_2⟩ := box3 A0 (hx.trans hx')
  have z0 := (A0.ext (hx.trans hx')).lt
  obtain ⟨k1_0, k1_1, k1_2, f1_0, f1_1, f1_2⟩ := box3 A1 (hx.trans hx')
  have z1 := (A1.ext (hx.trans hx')).lt
  obtain ⟨k2_0, k2_1, k2_2, f2_0, f2_1, f2_2⟩ := box3 A2 (hx.trans hx')
  have z2 := (A2.ext (hx.trans hx')).lt
  obtain ⟨m1, m2⟩ := small_mul hx1 hx2 hx1' hx2'
  obtain ⟨m3, m4⟩ := small_mul_nat hy1 hy2 hy1' hy2'
  have m3' : 0 < (y : Int) * (y' : Int) := by rw [← Int.natCast_mul]; omega
  have m4' : (y : Int) * (y' : Int) ≤ 4611686018427387904 := by rw [← Int.natCast_mul]; omega
  go_wp2_with fail
  rw [← Int.natCast_mul]
  refine (rat_quotient _ _ _ (by omega) (by omega) m3 (by omega)).mono ?_
  intro e wz hN
  rw [← Rat.mkRat_mul_mkRat, HXY.out, HXY'.out] at hN
  obtain ⟨az, cz, az', cz', rfl, hrz, hfz, hrz', hfz', hxz⟩ := id hN
  obtain ⟨k0_0, k0_1, k0_2, f0_0, f0_1, f0_2⟩ := box3 A0 ((hx.trans hx').trans hxz)
  have z0 := (A0.ext ((hx.trans hx').trans hxz)).lt
  obtain ⟨k1_0, k1_1, k1_2, f1_0, f1_1, f1_2⟩ := box3 A1 ((hx.trans hx').trans hxz)
  have z1 := (A1.ext ((hx.trans hx').trans hxz)).lt
  obtain ⟨k2_0, k2_1, k2_2, f2_0, f2_1, f2_2⟩ := box3 A2 ((hx.trans hx').trans hxz)
  have z2 := (A2.ext ((hx.trans hx').trans hxz)).lt
  go_wp2
  exact bodyPost_ret (by simp [results, Tryz.results96, go_sem, *]) rfl (NewRat.touch (hN.base (hx.trans hx')) x0 (Touch.three _ (by omega) (by rw [Z0.out]; omega) _ _ _))

set_option maxHeartbeats 2000000 in
set_option maxRecDepth 100000 in
/-- rational.Mul, a large number. -/
theorem rat_Mul_large (w : World) (s : Bool) (a b : Option Addr) (k c j d n m : Nat) (h : Raw w a k c n) (g : Raw w b j d m) (s' : Bool) (a' b' : Option Addr) (k' c' j' d' n' m' : Nat) (h' : Raw w a' k' c' n') (g' : Raw w b' j' d' m') (b1 : len n < 100000000) (b2 : len m < 100000000) (b1' : len n' < 100000000) (b2' : len m' < 100000000) (hl : ¬ ((n < 2147483648 ∧ m < 2147483648) ∧ (n' < 2147483648 ∧ m' < 2147483648))) :
    Calls Tryz.prog 96 #[.agg #[.bool s, .slice a k c, .slice b j d], .agg #[.bool s', .slice a' k' c', .slice b' j' d']] w (NewRat (mkRat (sgn s n) m * mkRat (sgn s' n') m') w) := by
  by_cases ha : n < 2147483648 ∧ m < 2147483648
  · have hb : ¬ (n' < 2147483648 ∧ m' < 2147483648) := fun h => hl ⟨ha, h⟩
    have HA := Lib.hid ha; have HB := Lib.hid hb; clear ha hb hl
    go_enter Tryz.func96, Tryz.ntmps96
    go_wp2_with fail
    obtain ⟨W, hW, x0, Z0, A0, A1, A2⟩ := boxes3 w 55 [.bool s, .slice a k c, .slice b j d] 55 [.bool s', .slice a' k' c', .slice b' j' d'] 55 [.bool false, .slice none 0 0, .slice none 0 0]
    rw [← hW]
    clear hW
    obtain ⟨k0_0, k0_1, k0_2, f0_0, f0_1, f0_2⟩ := box3 A0 (Ext.refl _)
    have z0 := (A0.ext (Ext.refl _)).lt
    obtain ⟨k1_0, k1_1, k1_2, f1_0, f1_1, f1_2⟩ := box3 A1 (Ext.refl _)
    have z1 := (A1.ext (Ext.refl _)).lt
    obtain ⟨k2_0, k2_1, k2_2, f2_0, f2_1, f2_2⟩ := box3 A2 (Ext.refl _)
    have z2 := (A2.ext (Ext.refl _)).lt
    refine (rat_small _ _ _ _ _ _ _ _ _ _ (h.ext x0) (g.ext x0) HA.out.1 HA.out.2).mono ?_
    rintro e w1 ⟨x, y, rfl, _, _, _, _, _, hx⟩
    obtain ⟨k0_0, k0_1, k0_2, f0_0, f0_1, f0_2⟩ := box3 A0 hx
    have z0 := (A0.ext hx).lt
    obtain ⟨k1_0, k1_1, k1_2, f1_0, f1_1, f1_2⟩ := box3 A1 hx
    have z1 := (A1.ext hx).lt
    obtain ⟨k2_0, k2_1, k2_2, f2_0, f2_1, f2_2⟩ := box3 A2 hx
    have z2 := (A2.ext hx).lt
    go_wp2_with fail
    refine (rat_small_no _ _ _ _ _ _ _ _ _ _ ((h'.ext x0).ext hx) ((g'.ext x0).ext hx) HB.out).mono ?_
    rintro e w2 ⟨rfl, hx'⟩
    have y2 : Ext W w2 := hx.trans hx'
    obtain ⟨k0_0, k0_1, k0_2, f0_0, f0_1, f0_2⟩ := box3 A0 y2
    have z0 := (A0.ext y2).lt
    obtain ⟨k1_0, k1_1, k1_2, f1_0, f1_1, f1_2⟩ := box3 A1 y2
    have z1 := (A1.ext y2).lt
    obtain ⟨k2_0, k2_1, k2_2, f2_0, f2_1, f2_2⟩ := box3 A2 y2
    have z2 := (A2.ext y2).lt
    go_wp2_with fail
    refine (rat_parts _ _ _ _ _ _ _ _ _ _ ((h.ext x0).ext y2) ((g.ext x0).ext y2)).mono ?_
    rintro e w3 ⟨s1, a1, k1, c1, n1, e1, j1, d1, m1, rfl, h1, g1, hm1, hv, l1, l2, hx3⟩
    have HV := Lib.hid hv; clear hv
    have y3 : Ext W w3 := y2.trans hx3
    obtain ⟨k0_0, k0_1, k0_2, f0_0, f0_1, f0_2⟩ := box3 A0 y3
    have z0 := (A0.ext y3).lt
    obtain ⟨k1_0, k1_1, k1_2, f1_0, f1_1, f1_2⟩ := box3 A1 y3
    have z1 := (A1.ext y3).lt
    obtain ⟨k2_0, k2_1, k2_2, f2_0, f2_1, f2_2⟩ := box3 A2 y3
    have z2 := (A2.ext y3).lt
    have P3 := Arr.alloc w3 53 [.bool s1, .slice a1 k1 c1]
    have y3' := y3.alloc (.cells #[.bool s1, .slice a1 k1 c1] 53)
    go_wp2_with fail
    refine (rat_parts _ _ _ _ _ _ _ _ _ _ ((h'.ext x0).ext y3') ((g'.ext x0).ext y3')).mono ?_
    rintro e w4 ⟨s2, a2, k2, c2, n2, e2, j2, d2, m2, rfl, h2, g2, hm2, hv2, l3, l4, hx4⟩
    have HV2 := Lib.hid hv2; clear hv2
    have y4 : Ext W w4 := y3'.trans hx4
    obtain ⟨k0_0, k0_1, k0_2, f0_0, f0_1, f0_2⟩ := box3 A0 y4
    have z0 := (A0.ext y4).lt
    obtain ⟨k1_0, k1_1, k1_2, f1_0, f1_1, f1_2⟩ := box3 A1 y4
    have z1 := (A1.ext y4).lt
    obtain ⟨k2_0, k2_1, k2_2, f2_0, f2_1, f2_2⟩ := box3 A2 y4
    have z2 := (A2.ext y4).lt
    obtain ⟨p0, p1, p2, p3⟩ := box2 P3 hx4
    have pz := (P3.ext hx4).lt
    have Q4 := Arr.alloc w4 53 [.bool s2, .slice a2 k2 c2]
    have y4' := y4.alloc (.cells #[.bool s2, .slice a2 k2 c2] 53)
    have v4 := ((Ext.refl w3).alloc (.cells #[.bool s1, .slice a1 k1 c1] 53)).trans (hx4.alloc (.cells #[.bool s2, .slice a2 k2 c2] 53))
    have u4 := (Ext.refl w4).alloc (.cells #[.bool s2, .slice a2 k2 c2] 53)
    go_wp2_with fail
    refine (int_Mul _ _ _ _ _ _ _ _ _ _ _ (h1.ext v4) (h2.ext u4) (by omega) (by omega)).mono ?_
    rintro e w5 ⟨a5, c5, rfl, hr5, hf5, hx5⟩
    have y5 : Ext W w5 := y4'.trans hx5
    obtain ⟨k0_0, k0_1, k0_2, f0_0, f0_1, f0_2⟩ := box3 A0 y5
    have z0 := (A0.ext y5).lt
    obtain ⟨k1_0, k1_1, k1_2, f1_0, f1_1, f1_2⟩ := box3 A1 y5
    have z1 := (A1.ext y5).lt
    obtain ⟨k2_0, k2_1, k2_2, f2_0, f2_1, f2_2⟩ := box3 A2 y5
    have z2 := (A2.ext y5).lt
    go_wp2_with fail
    refine (nat_Mul _ _ _ _ _ _ _ _ _ ((g1.ext v4).ext hx5) ((g2.ext u4).ext hx5) (by omega) (by omega)).mono ?_
    rintro e w6 ⟨a6, c6, rfl, hr6, hf6, hx6⟩
    have y6 : Ext W w6 := y5.trans hx6
    obtain ⟨k0_0, k0_1, k0_2, f0_0, f0_1, f0_2⟩ := box3 A0 y6
    have z0 := (A0.ext y6).lt
    obtain ⟨k1_0, k1_1, k1_2, f1_0, f1_1, f1_2⟩ := box3 A1 y6
    have z1 := (A1.ext y6).lt
    obtain ⟨k2_0, k2_1, k2_2, f2_0, f2_1, f2_2⟩ := box3 A2 y6
    have z2 := (A2.ext y6).lt
    have bl1 : len (sgn s1 n1 * sgn s2 n2).natAbs ≤ len n1 + len n2 := by rw [Int.natAbs_mul, sgn_natAbs, sgn_natAbs]; exact len_mul _ _
    have bl2 := len_mul m1 m2
    go_wp2_with fail
    refine (rat_lowest _ _ _ _ _ _ _ _ _ _ (hr5.ext hx6) hr6 (Nat.mul_pos hm1 hm2) (by omega) (by omega)).mono ?_
    intro e wz hN
    rw [sgn_num, ← Rat.mkRat_mul_mkRat, HV.out, HV2.out] at hN
    obtain ⟨az, cz, az', cz', rfl, hrz, hfz, hrz', hfz', hxz⟩ := id hN
    obtain ⟨k0_0, k0_1, k0_2, f0_0, f0_1, f0_2⟩ := box3 A0 (y6.trans hxz)
    have z0 := (A0.ext (y6.trans hxz)).lt
    obtain ⟨k1_0, k1_1, k1_2, f1_0, f1_1, f1_2⟩ := box3 A1 (y6.trans hxz)
    have z1 := (A1.ext (y6.trans hxz)).lt
    obtain ⟨k2_0, k2_1, k2_2, f2_0, f2_1, f2_2⟩ := box3 A2 (y6.trans hxz)
    have z2 := (A2.ext (y6.trans hxz)).lt
    go_wp2
    exact bodyPost_ret (by simp [results, Tryz.results96, go_sem, *]) rfl (NewRat.touch (hN.base y6) x0 (Touch.three _ (by omega) (by rw [Z0.out]; omega) _ _ _))
  · by_cases hb : n' < 2147483648 ∧ m' < 2147483648
    · have HA := Lib.hid ha; have HB := Lib.hid hb; clear ha hb hl
      go_enter Tryz.func96, Tryz.ntmps96
      go_wp2_with fail
      obtain ⟨W, hW, x0, Z0, A0, A1, A2⟩ := boxes3 w 55 [.bool s, .slice a k c, .slice b j d] 55 [.bool s', .slice a' k' c', .slice b' j' d'] 55 [.bool false, .slice none 0 0, .slice none 0 0]
      rw [← hW]
      clear hW
      obtain ⟨k0_0, k0_1, k0_2, f0_0, f0_1, f0_2⟩ := box3 A0 (Ext.refl _)
      have z0 := (A0.ext (Ext.refl _)).lt
      obtain ⟨k1_0, k1_1, k1_2, f1_0, f1_1, f1_2⟩ := box3 A1 (Ext.refl _)
      have z1 := (A1.ext (Ext.refl _)).lt
      obtain ⟨k2_0, k2_1, k2_2, f2_0, f2_1, f2_2⟩ := box3 A2 (Ext.refl _)
      have z2 := (A2.ext (Ext.refl _)).lt
      refine (rat_small_no _ _ _ _ _ _ _ _ _ _ (h.ext x0) (g.ext x0) HA.out).mono ?_
      rintro e w1 ⟨rfl, hx⟩
      obtain ⟨k0_0, k0_1, k0_2, f0_0, f0_1, f0_2⟩ := box3 A0 hx
      have z0 := (A0.ext hx).lt
      obtain ⟨k1_0, k1_1, k1_2, f1_0, f1_1, f1_2⟩ := box3 A1 hx
      have z1 := (A1.ext hx).lt
      obtain ⟨k2_0, k2_1, k2_2, f2_0, f2_1, f2_2⟩ := box3 A2 hx
      have z2 := (A2.ext hx).lt
      go_wp2_with fail
      refine (rat_small _ _ _ _ _ _ _ _ _ _ ((h'.ext x0).ext hx) ((g'.ext x0).ext hx) HB.out.1 HB.out.2).mono ?_
      rintro e w2 ⟨x', y', rfl, _, _, _, _, _, hx'⟩
      have y2 : Ext W w2 := hx.trans hx'
      obtain ⟨k0_0, k0_1, k0_2, f0_0, f0_1, f0_2⟩ := box3 A0 y2
      have z0 := (A0.ext y2).lt
      obtain ⟨k1_0, k1_1, k1_2, f1_0, f1_1, f1_2⟩ := box3 A1 y2
      have z1 := (A1.ext y2).lt
      obtain ⟨k2_0, k2_1, k2_2, f2_0, f2_1, f2_2⟩ := box3 A2 y2
      have z2 := (A2.ext y2).lt
      go_wp2_with fail
      refine (rat_parts _ _ _ _ _ _ _ _ _ _ ((h.ext x0).ext y2) ((g.ext x0).ext y2)).mono ?_
      rintro e w3 ⟨s1, a1, k1, c1, n1, e1, j1, d1, m1, rfl, h1, g1, hm1, hv, l1, l2, hx3⟩
      have HV := Lib.hid hv; clear hv
      have y3 : Ext W w3 := y2.trans hx3
      obtain ⟨k0_0, k0_1, k0_2, f0_0, f0_1, f0_2⟩ := box3 A0 y3
      have z0 := (A0.ext y3).lt
      obtain ⟨k1_0, k1_1, k1_2, f1_0, f1_1, f1_2⟩ := box3 A1 y3
      have z1 := (A1.ext y3).lt
      obtain ⟨k2_0, k2_1, k2_2, f2_0, f2_1, f2_2⟩ := box3 A2 y3
      have z2 := (A2.ext y3).lt
      have P3 := Arr.alloc w3 53 [.bool s1, .slice a1 k1 c1]
      have y3' := y3.alloc (.cells #[.bool s1, .slice a1 k1 c1] 53)
      go_wp2_with fail
      refine (rat_parts _ _ _ _ _ _ _ _ _ _ ((h'.ext x0).ext y3') ((g'.ext x0).ext y3')).mono ?_
      rintro e w4 ⟨s2, a2, k2, c2, n2, e2, j2, d2, m2, rfl, h2, g2, hm2, hv2, l3, l4, hx4⟩
      have HV2 := Lib.hid hv2; clear hv2
      have y4 : Ext W w4 := y3'.trans hx4
      obtain ⟨k0_0, k0_1, k0_2, f0_0, f0_1, f0_2⟩ := box3 A0 y4
      have z0 := (A0.ext y4).lt
      obtain ⟨k1_0, k1_1, k1_2, f1_0, f1_1, f1_2⟩ := box3 A1 y4
      have z1 := (A1.ext y4).lt
      obtain ⟨k2_0, k2_1, k2_2, f2_0, f2_1, f2_2⟩ := box3 A2 y4
      have z2 := (A2.ext y4).lt
      obtain ⟨p0, p1, p2, p3⟩ := box2 P3 hx4
      have pz := (P3.ext hx4).lt
      have Q4 := Arr.alloc w4 53 [.bool s2, .slice a2 k2 c2]
      have y4' := y4.alloc (.cells #[.bool s2, .slice a2 k2 c2] 53)
      have v4 := ((Ext.refl w3).alloc (.cells #[.bool s1, .slice a1 k1 c1] 53)).trans (hx4.alloc (.cells #[.bool s2, .slice a2 k2 c2] 53))
      have u4 := (Ext.refl w4).alloc (.cells #[.bool s2, .slice a2 k2 c2] 53)
      go_wp2_with fail
      refine (int_Mul _ _ _ _ _ _ _ _ _ _ _ (h1.ext v4) (h2.ext u4) (by omega) (by omega)).mono ?_
      rintro e w5 ⟨a5, c5, rfl, hr5, hf5, hx5⟩
      have y5 : Ext W w5 := y4'.trans hx5
      obtain ⟨k0_0, k0_1, k0_2, f0_0, f0_1, f0_2⟩ := box3 A0 y5
      have z0 := (A0.ext y5).lt
      obtain ⟨k1_0, k1_1, k1_2, f1_0, f1_1, f1_2⟩ := box3 A1 y5
      have z1 := (A1.ext y5).lt
      obtain ⟨k2_0, k2_1, k2_2, f2_0, f2_1, f2_2⟩ := box3 A2 y5
      have z2 := (A2.ext y5).lt
      go_wp2_with fail
      refine (nat_Mul _ _ _ _ _ _ _ _ _ ((g1.ext v4).ext hx5) ((g2.ext u4).ext hx5) (by omega) (by omega)).mono ?_
      rintro e w6 ⟨a6, c6, rfl, hr6, hf6, hx6⟩
      have y6 : Ext W w6 := y5.trans hx6
      obtain ⟨k0_0, k0_1, k0_2, f0_0, f0_1, f0_2⟩ := box3 A0 y6
      have z0 := (A0.ext y6).lt
      obtain ⟨k1_0, k1_1, k1_2, f1_0, f1_1, f1_2⟩ := box3 A1 y6
      have z1 := (A1.ext y6).lt
      obtain ⟨k2_0, k2_1, k2_2, f2_0, f2_1, f2_2⟩ := box3 A2 y6
      have z2 := (A2.ext y6).lt
      have bl1 : len (sgn s1 n1 * sgn s2 n2).natAbs ≤ len n1 + len n2 := by rw [Int.natAbs_mul, sgn_natAbs, sgn_natAbs]; exact len_mul _ _
      have bl2 := len_mul m1 m2
      go_wp2_with fail
      refine (rat_lowest _ _ _ _ _ _ _ _ _ _ (hr5.ext hx6) hr6 (Nat.mul_pos hm1 hm2) (by omega) (by omega)).mono ?_
      intro e wz hN
      rw [sgn_num, ← Rat.mkRat_mul_mkRat, HV.out, HV2.out] at hN
      obtain ⟨az, cz, az', cz', rfl, hrz, hfz, hrz', hfz', hxz⟩ := id hN
      obtain ⟨k0_0, k0_1, k0_2, f0_0, f0_1, f0_2⟩ := box3 A0 (y6.trans hxz)
      have z0 := (A0.ext (y6.trans hxz)).lt
      obtain ⟨k1_0, k1_1, k1_2, f1_0, f1_1, f1_2⟩ := box3 A1 (y6.trans hxz)
      have z1 := (A1.ext (y6.trans hxz)).lt
      obtain ⟨k2_0, k2_1, k2_2, f2_0, f2_1, f2_2⟩ := box3 A2 (y6.trans hxz)
      have z2 := (A2.ext (y6.trans hxz)).lt
      go_wp2
      exact bodyPost_ret (by simp [results, Tryz.results96, go_sem, *]) rfl (NewRat.touch (hN.base y6) x0 (Touch.three _ (by omega) (by rw [Z0.out]; omega) _ _ _))
    · have HA := Lib.hid ha; have HB := Lib.hid hb; clear ha hb hl
      go_enter Tryz.func96, Tryz.ntmps96
      go_wp2_with fail
      obtain ⟨W, hW, x0, Z0, A0, A1, A2⟩ := boxes3 w 55 [.bool s, .slice a k c, .slice b j d] 55 [.bool s', .slice a' k' c', .slice b' j' d'] 55 [.bool false, .slice none 0 0, .slice none 0 0]
      rw [← hW]
      clear hW
      obtain ⟨k0_0, k0_1, k0_2, f0_0, f0_1, f0_2⟩ := box3 A0 (Ext.refl _)
      have z0 := (A0.ext (Ext.refl _)).lt
      obtain ⟨k1_0, k1_1, k1_2, f1_0, f1_1, f1_2⟩ := box3 A1 (Ext.refl _)
      have z1 := (A1.ext (Ext.refl _)).lt
      obtain ⟨k2_0, k2_1, k2_2, f2_0, f2_1, f2_2⟩ := box3 A2 (Ext.refl _)
      have z2 := (A2.ext (Ext.refl _)).lt
      refine (rat_small_no _ _ _ _ _ _ _ _ _ _ (h.ext x0) (g.ext x0) HA.out).mono ?_
      rintro e w1 ⟨rfl, hx⟩
      obtain ⟨k0_0, k0_1, k0_2, f0_0, f0_1, f0_2⟩ := box3 A0 hx
      have z0 := (A0.ext hx).lt
      obtain ⟨k1_0, k1_1, k1_2, f1_0, f1_1, f1_2⟩ := box3 A1 hx
      have z1 := (A1.ext hx).lt
      obtain ⟨k2_0, k2_1, k2_2, f2_0, f2_1, f2_2⟩ := box3 A2 hx
      have z2 := (A2.ext hx).lt
      go_wp2_with fail
      refine (rat_small_no _ _ _ _ _ _ _ _ _ _ ((h'.ext x0).ext hx) ((g'.ext x0).ext hx) HB.out).mono ?_
      rintro e w2 ⟨rfl, hx'⟩
      have y2 : Ext W w2 := hx.trans hx'
      obtain ⟨k0_0, k0_1, k0_2, f0_0, f0_1, f0_2⟩ := box3 A0 y2
      have z0 := (A0.ext y2).lt
      obtain ⟨k1_0, k1_1, k1_2, f1_0, f1_1, f1_2⟩ := box3 A1 y2
      have z1 := (A1.ext y2).lt
      obtain ⟨k2_0, k2_1, k2_2, f2_0, f2_1, f2_2⟩ := box3 A2 y2
      have z2 := (A2.ext y2).lt
      go_wp2_with fail
      refine (rat_parts _ _ _ _ _ _ _ _ _ _ ((h.ext x0).ext y2) ((g.ext x0).ext y2)).mono ?_
      rintro e w3 ⟨s1, a1, k1, c1, n1, e1, j1, d1, m1, rfl, h1, g1, hm1, hv, l1, l2, hx3⟩
      have HV := Lib.hid hv; clear hv
      have y3 : Ext W w3 := y2.trans hx3
      obtain ⟨k0_0, k0_1, k0_2, f0_0, f0_1, f0_2⟩ := box3 A0 y3
      have z0 := (A0.ext y3).lt
      obtain ⟨k1_0, k1_1, k1_2, f1_0, f1_1, f1_2⟩ := box3 A1 y3
      have z1 := (A1.ext y3).lt
      obtain ⟨k2_0, k2_1, k2_2, f2_0, f2_1, f2_2⟩ := box3 A2 y3
      have z2 := (A2.ext y3).lt
      have P3 := Arr.alloc w3 53 [.bool s1, .slice a1 k1 c1]
      have y3' := y3.alloc (.cells #[.bool s1, .slice a1 k1 c1] 53)
      go_wp2_with fail
      refine (rat_parts _ _ _ _ _ _ _ _ _ _ ((h'.ext x0).ext y3') ((g'.ext x0).ext y3')).mono ?_
      rintro e w4 ⟨s2, a2, k2, c2, n2, e2, j2, d2, m2, rfl, h2, g2, hm2, hv2, l3, l4, hx4⟩
      have HV2 := Lib.hid hv2; clear hv2
      have y4 : Ext W w4 := y3'.trans hx4
      obtain ⟨k0_0, k0_1, k0_2, f0_0, f0_1, f0_2⟩ := box3 A0 y4
      have z0 := (A0.ext y4).lt
      obtain ⟨k1_0, k1_1, k1_2, f1_0, f1_1, f1_2⟩ := box3 A1 y4
      have z1 := (A1.ext y4).lt
      obtain ⟨k2_0, k2_1, k2_2, f2_0, f2_1, f2_2⟩ := box3 A2 y4
      have z2 := (A2.ext y4).lt
      obtain ⟨p0, p1, p2, p3⟩ := box2 P3 hx4
      have pz := (P3.ext hx4).lt
      have Q4 := Arr.alloc w4 53 [.bool s2, .slice a2 k2 c2]
      have y4' := y4.alloc (.cells #[.bool s2, .slice a2 k2 c2] 53)
      have v4 := ((Ext.refl w3).alloc (.cells #[.bool s1, .slice a1 k1 c1] 53)).trans (hx4.alloc (.cells #[.bool s2, .slice a2 k2 c2] 53))
      have u4 := (Ext.refl w4).alloc (.cells #[.bool s2, .slice a2 k2 c2] 53)
      go_wp2_with fail
      refine (int_Mul _ _ _ _ _ _ _ _ _ _ _ (h1.ext v4) (h2.ext u4) (by omega) (by omega)).mono ?_
      rintro e w5 ⟨a5, c5, rfl, hr5, hf5, hx5⟩
      have y5 : Ext W w5 := y4'.trans hx5
      obtain ⟨k0_0, k0_1, k0_2, f0_0, f0_1, f0_2⟩ := box3 A0 y5
      have z0 := (A0.ext y5).lt
      obtain ⟨k1_0, k1_1, k1_2, f1_0, f1_1, f1_2⟩ := box3 A1 y5
      have z1 := (A1.ext y5).lt
      obtain ⟨k2_0, k2_1, k2_2, f2_0, f2_1, f2_2⟩ := box3 A2 y5
      have z2 := (A2.ext y5).lt
      go_wp2_with fail
      refine (nat_Mul _ _ _ _ _ _ _ _ _ ((g1.ext v4).ext hx5) ((g2.ext u4).ext hx5) (by omega) (by omega)).mono ?_
      rintro e w6 ⟨a6, c6, rfl, hr6, hf6, hx6⟩
      have y6 : Ext W w6 := y5.trans hx6
      obtain ⟨k0_0, k0_1, k0_2, f0_0, f0_1, f0_2⟩ := box3 A0 y6
      have z0 := (A0.ext y6).lt
      obtain ⟨k1_0, k1_1, k1_2, f1_0, f1_1, f1_2⟩ := box3 A1 y6
      have z1 := (A1.ext y6).lt
      obtain ⟨k2_0, k2_1, k2_2, f2_0, f2_1, f2_2⟩ := box3 A2 y6
      have z2 := (A2.ext y6).lt
      have bl1 : len (sgn s1 n1 * sgn s2 n2).natAbs ≤ len n1 + len n2 := by rw [Int.natAbs_mul, sgn_natAbs, sgn_natAbs]; exact len_mul _ _
      have bl2 := len_mul m1 m2
      go_wp2_with fail
      refine (rat_lowest _ _ _ _ _ _ _ _ _ _ (hr5.ext hx6) hr6 (Nat.mul_pos hm1 hm2) (by omega) (by omega)).mono ?_
      intro e wz hN
      rw [sgn_num, ← Rat.mkRat_mul_mkRat, HV.out, HV2.out] at hN
      obtain ⟨az, cz, az', cz', rfl, hrz, hfz, hrz', hfz', hxz⟩ := id hN
      obtain ⟨k0_0, k0_1, k0_2, f0_0, f0_1, f0_2⟩ := box3 A0 (y6.trans hxz)
      have z0 := (A0.ext (y6.trans hxz)).lt
      obtain ⟨k1_0, k1_1, k1_2, f1_0, f1_1, f1_2⟩ := box3 A1 (y6.trans hxz)
      have z1 := (A1.ext (y6.trans hxz)).lt
      obtain ⟨k2_0, k2_1, k2_2, f2_0, f2_1, f2_2⟩ := box3 A2 (y6.trans hxz)
      have z2 := (A2.ext (y6.trans hxz)).lt
      go_wp2
      exact bodyPost_ret (by simp [results, Tryz.results96, go_sem, *]) rfl (NewRat.touch (hN.base y6) x0 (Touch.three _ (by omega) (by rw [Z0.out]; omega) _ _ _))

/-- rational.Mul. -/
theorem rat_Mul (w : World) (s : Bool) (a b : Option Addr) (k c j d n m : Nat) (h : Raw w a k c n) (g : Raw w b j d m) (s' : Bool) (a' b' : Option Addr) (k' c' j' d' n' m' : Nat) (h' : Raw w a' k' c' n') (g' : Raw w b' j' d' m') (b1 : len n < 100000000) (b2 : len m < 100000000) (b1' : len n' < 100000000) (b2' : len m' < 100000000) :
    Calls Tryz.prog 96 #[.agg #[.bool s, .slice a k c, .slice b j d], .agg #[.bool s', .slice a' k' c', .slice b' j' d']] w (NewRat (mkRat (sgn s n) m * mkRat (sgn s' n') m') w) := by
  by_cases hl : (n < 2147483648 ∧ m < 2147483648) ∧ (n' < 2147483648 ∧ m' < 2147483648)
  · exact rat_Mul_small w _ _ _ _ _ _ _ _ _ h g _ _ _ _ _ _ _ _ _ h' g' hl.1.1 hl.1.2 hl.2.1 hl.2.2
  · exact rat_Mul_large w _ _ _ _ _ _ _ _ _ h g _ _ _ _ _ _ _ _ _ h' g' b1 b2 b1' b2' hl

end Go.Proofs.YtgihpfkjpfanmaaGreat

/- Contracts of cmp.Compare and rational.Compare. -/
namespace Go.Proofs.YtgihpfkjpfanmaaGreat
open Go.RowKit

/-- -1, 0 or 1. -/
def cmpQ (p q : Rat) : Int := cmpZ (p.num * q.den) (q.num * p.den)
theorem cmpQ_lt {p q : Rat} : cmpQ p q < 0 ↔ p < q := by
  rw [Rat.lt_iff]; unfold cmpQ cmpZ; split
  · simp [*]
  · split <;> simp [*]
theorem cmpQ_gt {p q : Rat} : 0 < cmpQ p q ↔ q < p := by
  rw [Rat.lt_iff]; unfold cmpQ cmpZ; split
  · simp; omega
  · split
    · simp; omega
    · simp; omega
theorem cmpQ_eq {p q : Rat} : cmpQ p q = 0 ↔ p = q := by
  rw [Rat.eq_iff_mul_eq_mul]; unfold cmpQ cmpZ; split
  · simp; omega
  · split
    · simp [*]
    · simp [*]
theorem cmpQ_cases (p q : Rat) : cmpQ p q = -1 ∨ cmpQ p q = 0 ∨ cmpQ p q = 1 := by
  unfold cmpQ cmpZ; split
  · simp
  · split <;> simp
theorem cmpZ_scale (a b c : Int) (h : 0 < c) : cmpZ (a * c) (b * c) = cmpZ a b := by
  unfold cmpZ
  by_cases h1 : a < b
  · rw [if_pos h1, if_pos (Int.mul_lt_mul_of_pos_right h1 h)]
  · have h2 : ¬ a * c < b * c := fun hh => h1 (Int.lt_of_mul_lt_mul_right hh (Int.le_of_lt h))
    rw [if_neg h1, if_neg h2]
    by_cases h3 : a = b
    · rw [if_pos h3, if_pos (by rw [h3])]
    · rw [if_neg h3, if_neg (fun hh => h3 (Int.eq_of_mul_eq_mul_right (by omega) hh))]
theorem mkRat_scaled (x : Int) (y : Nat) (h : 0 < y) : ∃ g : Nat, 0 < g ∧ x = (mkRat x y).num * g ∧ y = (mkRat x y).den * g := by
  obtain ⟨g, h1, h2, h3⟩ := Rat.mkRat_num_den (n := x) (d := y) (by omega) (n' := (mkRat x y).num) (d' := (mkRat x y).den) (z' := (mkRat x y).den_nz) (c := (mkRat x y).reduced) rfl
  exact ⟨g, by omega, h2, h3⟩
theorem cmpQ_mkRat (x x' : Int) (y y' : Nat) (h : 0 < y) (h' : 0 < y') : cmpQ (mkRat x y) (mkRat x' y') = cmpZ (x * y') (x' * y) := by
  obtain ⟨g, g0, e1, e2⟩ := mkRat_scaled x y h
  obtain ⟨g', g0', e1', e2'⟩ := mkRat_scaled x' y' h'
  generalize mkRat x y = p at *
  generalize mkRat x' y' = q at *
  subst e1 e2 e1' e2'
  unfold cmpQ
  rw [← cmpZ_scale _ _ ((g : Int) * (g' : Int)) (Int.mul_pos (by omega) (by omega))]
  congr 1
  · rw [Int.natCast_mul]; simp only [Int.mul_assoc, Int.mul_left_comm, Int.mul_comm]
  · rw [Int.natCast_mul]; simp only [Int.mul_assoc, Int.mul_left_comm, Int.mul_comm]
theorem sign_mul_pos (x : Int) (d : Nat) (h : 0 < d) : (x * (d : Int)).sign = x.sign := by
  have hd : (0 : Int) < (d : Int) := by omega
  rw [Int.sign_mul, Int.sign_eq_one_of_pos hd, Int.mul_one]
theorem cmpQ_sign {p q : Rat} (h : p.num.sign ≠ q.num.sign) : cmpZ p.num.sign q.num.sign = cmpQ p q := by
  have hp := sign_mul_pos p.num q.den (Nat.pos_of_ne_zero q.den_nz)
  have hq := sign_mul_pos q.num p.den (Nat.pos_of_ne_zero p.den_nz)
  unfold cmpQ
  by_cases h1 : p.num.sign < q.num.sign
  · rw [cmpZ_lt h1, cmpZ_lt (sign_lt (by rw [hp, hq]; exact h1))]
  · rw [cmpZ_gt (by omega), cmpZ_gt (sign_lt (by rw [hp, hq]; omega))]

theorem cmp_int_nan (w : World) (x : Int) : Calls Tryz.prog 135 #[.int .i64 x] w fun e w' => e = .returned (.bool false) ∧ w = w' := by
  go_enter Tryz.func135, Tryz.ntmps135
  go_wp2
  go_ret
  exact ⟨by simp, rfl⟩
/-- cmp.Compare. -/
theorem cmp_int (w : World) (x y : Int) : Calls Tryz.prog 69 #[.int .i64 x, .int .i64 y] w fun e w' => e = .returned (.int .i64 (cmpZ x y)) ∧ w = w' := by
  by_cases h1 : x < y
  · have e1 := cmpZ_lt h1
    have E1 := Lib.hid e1; clear e1
    go_enter Tryz.func69, Tryz.ntmps69
    go_wp2_with fail
    refine (cmp_int_nan _ _).mono ?_
    rintro e w' ⟨rfl, rfl⟩
    go_wp2_with fail
    refine (cmp_int_nan _ _).mono ?_
    rintro e w' ⟨rfl, rfl⟩
    go_wp2
    go_ret
    exact ⟨ret_int E1.out.symm, rfl⟩
  · by_cases h2 : y < x
    · have e1 := cmpZ_gt h2
      have E1 := Lib.hid e1; clear e1
      go_enter Tryz.func69, Tryz.ntmps69
      go_wp2_with fail
      refine (cmp_int_nan _ _).mono ?_
      rintro e w' ⟨rfl, rfl⟩
      go_wp2_with fail
      refine (cmp_int_nan _ _).mono ?_
      rintro e w' ⟨rfl, rfl⟩
      go_wp2
      go_ret
      exact ⟨ret_int E1.out.symm, rfl⟩
    · obtain rfl : x = y := by omega
      have e1 : cmpZ x x = 0 := by unfold cmpZ; simp
      have E1 := Lib.hid e1; clear e1
      go_enter Tryz.func69, Tryz.ntmps69
      go_wp2_with fail
      refine (cmp_int_nan _ _).mono ?_
      rintro e w' ⟨rfl, rfl⟩
      go_wp2_with fail
      refine (cmp_int_nan _ _).mono ?_
      rintro e w' ⟨rfl, rfl⟩
      go_wp2
      go_ret
      exact ⟨ret_int E1.out.symm, rfl⟩

theorem cmp_int64_nan (w : World) (x : Int) : Calls Tryz.prog 205 #[.int .i64 x] w fun e w' => e = .returned (.bool false) ∧ w = w' := by
  go_enter Tryz.func205, Tryz.ntmps205
  go_wp2
  go_ret
  exact ⟨by simp, rfl⟩
/-- cmp.Compare. -/
theorem cmp_int64 (w : World) (x y : Int) : Calls Tryz.prog 131 #[.int .i64 x, .int .i64 y] w fun e w' => e = .returned (.int .i64 (cmpZ x y)) ∧ w = w' := by
  by_cases h1 : x < y
  · have e1 := cmpZ_lt h1
    have E1 := Lib.hid e1; clear e1
    go_enter Tryz.func131, Tryz.ntmps131
    go_wp2_with fail
    refine (cmp_int64_nan _ _).mono ?_
    rintro e w' ⟨rfl, rfl⟩
    go_wp2_with fail
    refine (cmp_int64_nan _ _).mono ?_
    rintro e w' ⟨rfl, rfl⟩
    go_wp2
    go_ret
    exact ⟨ret_int E1.out.symm, rfl⟩
  · by_cases h2 : y < x
    · have e1 := cmpZ_gt h2
      have E1 := Lib.hid e1; clear e1
      go_enter Tryz.func131, Tryz.ntmps131
      go_wp2_with fail
      refine (cmp_int64_nan _ _).mono ?_
      rintro e w' ⟨rfl, rfl⟩
      go_wp2_with fail
      refine (cmp_int64_nan _ _).mono ?_
      rintro e w' ⟨rfl, rfl⟩
      go_wp2
      go_ret
      exact ⟨ret_int E1.out.symm, rfl⟩
    · obtain rfl : x = y := by omega
      have e1 : cmpZ x x = 0 := by unfold cmpZ; simp
      have E1 := Lib.hid e1; clear e1
      go_enter Tryz.func131, Tryz.ntmps131
      go_wp2_with fail
      refine (cmp_int64_nan _ _).mono ?_
      rintro e w' ⟨rfl, rfl⟩
      go_wp2_with fail
      refine (cmp_int64_nan _ _).mono ?_
      rintro e w' ⟨rfl, rfl⟩
      go_wp2
      go_ret
      exact ⟨ret_int E1.out.symm, rfl⟩

set_option maxHeartbeats 4000000 in
set_option maxRecDepth 100000 in
/-- rational.Compare. -/
theorem rat_Compare (w : World) (s : Bool) (a b : Option Addr) (k c j d n m : Nat) (h : Raw w a k c n) (g : Raw w b j d m) (s' : Bool) (a' b' : Option Addr) (k' c' j' d' n' m' : Nat) (h' : Raw w a' k' c' n') (g' : Raw w b' j' d' m') (b1 : len n < 100000000) (b2 : len m < 100000000) (b1' : len n' < 100000000) (b2' : len m' < 100000000) :
    Calls Tryz.prog 68 #[.agg #[.bool s, .slice a k c, .slice b j d], .agg #[.bool s', .slice a' k' c', .slice b' j' d']] w fun e w' => e = .returned (.int .i64 (cmpQ (mkRat (sgn s n) m) (mkRat (sgn s' n') m'))) ∧ Ext w w' := by
  by_cases hs : (mkRat (sgn s n) m).num.sign = (mkRat (sgn s' n') m').num.sign
  · have hs' : ((mkRat (sgn s n) m).num.sign != (mkRat (sgn s' n') m').num.sign) = false := by rw [hs]; simp
    have HS := Lib.hid hs; clear hs
    by_cases ha : n < 2147483648 ∧ m < 2147483648
    · by_cases hb : n' < 2147483648 ∧ m' < 2147483648
      · have HA := Lib.hid ha; have HB := Lib.hid hb; clear ha hb
        go_enter Tryz.func68, Tryz.ntmps68
        go_wp2
        obtain ⟨W, hW, x0, Z0, A0, A1⟩ := boxes2 w 55 [.bool s, .slice a k c, .slice b j d] 55 [.bool s', .slice a' k' c', .slice b' j' d']
        rw [← hW]
        clear hW
        obtain ⟨k0_0, k0_1, k0_2, f0_0, f0_1, f0_2⟩ := box3 A0 (Ext.refl _)
        have z0 := (A0.ext (Ext.refl _)).lt
        obtain ⟨k1_0, k1_1, k1_2, f1_0, f1_1, f1_2⟩ := box3 A1 (Ext.refl _)
        have z1 := (A1.ext (Ext.refl _)).lt
        have tok1 : True := trivial
        go_region_held3 (fun w' => w'.cell? ⟨w.heap.size, 0, none⟩ = some (.bool s) ∧ w'.cell? ⟨w.heap.size, 1, none⟩ = some (.slice a k c) ∧ w'.cell? ⟨w.heap.size, 2, none⟩ = some (.slice b j d) ∧ w'.cell? ⟨w.heap.size + 1, 0, none⟩ = some (.bool s') ∧ w'.cell? ⟨w.heap.size + 1, 1, none⟩ = some (.slice a' k' c') ∧ w'.cell? ⟨w.heap.size + 1, 2, none⟩ = some (.slice b' j' d')) (first | exact ⟨k0_0, k0_1, k0_2, k1_0, k1_1, k1_2⟩ | (simp [go_sem, k0_0, k0_1, k0_2, k1_0, k1_1, k1_2])) (first
          | (go_at_call 94; have _t := tok1; refine (rat_Sign _ _ _ _ _ _ _ _ _ _ ((h.ext x0).ext (by exact (Ext.refl _).drew)) ((g.ext x0).ext (by exact (Ext.refl _).drew))).mono ?_; rintro e w1 ⟨rfl, hx1⟩; clear tok1 _t; obtain ⟨k0_0, k0_1, k0_2, f0_0, f0_1, f0_2⟩ := box3 A0 ((((Ext.refl _).drew)).trans hx1); have z0 := (A0.ext ((((Ext.refl _).drew)).trans hx1)).lt; obtain ⟨k1_0, k1_1, k1_2, f1_0, f1_1, f1_2⟩ := box3 A1 ((((Ext.refl _).drew)).trans hx1); have z1 := (A1.ext ((((Ext.refl _).drew)).trans hx1)).lt)
          | (go_at_call 94; refine (rat_Sign _ _ _ _ _ _ _ _ _ _ (((h'.ext x0).ext (by exact (Ext.refl _).drew)).ext hx1) (((g'.ext x0).ext (by exact (Ext.refl _).drew)).ext hx1)).mono ?_; rintro e w2 ⟨rfl, hx2⟩; obtain ⟨k0_0, k0_1, k0_2, f0_0, f0_1, f0_2⟩ := box3 A0 (((((Ext.refl _).drew)).trans hx1).trans hx2); have z0 := (A0.ext (((((Ext.refl _).drew)).trans hx1).trans hx2)).lt; obtain ⟨k1_0, k1_1, k1_2, f1_0, f1_1, f1_2⟩ := box3 A1 (((((Ext.refl _).drew)).trans hx1).trans hx2); have z1 := (A1.ext (((((Ext.refl _).drew)).trans hx1).trans hx2)).lt))
        have y2 : Ext W w2 := ((Ext.refl W).drew.trans hx1).trans hx2
        go_wp2_with fail
        refine (rat_small _ _ _ _ _ _ _ _ _ _ ((h.ext x0).ext y2) ((g.ext x0).ext y2) HA.out.1 HA.out.2).mono ?_
        rintro e w3 ⟨x, y, rfl, i1, i2, i3, i4, hxy, hx3⟩
        have HXY := Lib.hid hxy; clear hxy
        have y3 : Ext W w3 := y2.trans hx3
        obtain ⟨k0_0, k0_1, k0_2, f0_0, f0_1, f0_2⟩ := box3 A0 y3
        have z0 := (A0.ext y3).lt
        obtain ⟨k1_0, k1_1, k1_2, f1_0, f1_1, f1_2⟩ := box3 A1 y3
        have z1 := (A1.ext y3).lt
        go_wp2_with fail
        refine (rat_small _ _ _ _ _ _ _ _ _ _ ((h'.ext x0).ext y3) ((g'.ext x0).ext y3) HB.out.1 HB.out.2).mono ?_
        rintro e w4 ⟨x', y', rfl, i1', i2', i3', i4', hxy', hx4⟩
        have HXY' := Lib.hid hxy'; clear hxy'
        have y4 : Ext W w4 := y3.trans hx4
        obtain ⟨k0_0, k0_1, k0_2, f0_0, f0_1, f0_2⟩ := box3 A0 y4
        have z0 := (A0.ext y4).lt
        obtain ⟨k1_0, k1_1, k1_2, f1_0, f1_1, f1_2⟩ := box3 A1 y4
        have z1 := (A1.ext y4).lt
        obtain ⟨m1, m2⟩ := small_mul i1 i2 (by omega : -2147483648 < (y' : Int)) (by omega)
        obtain ⟨m3, m4⟩ := small_mul i1' i2' (by omega : -2147483648 < (y : Int)) (by omega)
        go_wp2_with fail
        refine (cmp_int64 _ _ _).mono ?_
        rintro e w5 ⟨rfl, rfl⟩
        go_wp2
        go_ret
        exact ⟨ret_int (by rw [← HXY.out, ← HXY'.out, cmpQ_mkRat _ _ _ _ i3 i3']), x0.trans y4⟩
      · have HA := Lib.hid ha; have HB := Lib.hid hb; clear ha hb
        go_enter Tryz.func68, Tryz.ntmps68
        go_wp2
        obtain ⟨W, hW, x0, Z0, A0, A1⟩ := boxes2 w 55 [.bool s, .slice a k c, .slice b j d] 55 [.bool s', .slice a' k' c', .slice b' j' d']
        rw [← hW]
        clear hW
        obtain ⟨k0_0, k0_1, k0_2, f0_0, f0_1, f0_2⟩ := box3 A0 (Ext.refl _)
        have z0 := (A0.ext (Ext.refl _)).lt
        obtain ⟨k1_0, k1_1, k1_2, f1_0, f1_1, f1_2⟩ := box3 A1 (Ext.refl _)
        have z1 := (A1.ext (Ext.refl _)).lt
        have tok1 : True := trivial
        go_region_held3 (fun w' => w'.cell? ⟨w.heap.size, 0, none⟩ = some (.bool s) ∧ w'.cell? ⟨w.heap.size, 1, none⟩ = some (.slice a k c) ∧ w'.cell? ⟨w.heap.size, 2, none⟩ = some (.slice b j d) ∧ w'.cell? ⟨w.heap.size + 1, 0, none⟩ = some (.bool s') ∧ w'.cell? ⟨w.heap.size + 1, 1, none⟩ = some (.slice a' k' c') ∧ w'.cell? ⟨w.heap.size + 1, 2, none⟩ = some (.slice b' j' d')) (first | exact ⟨k0_0, k0_1, k0_2, k1_0, k1_1, k1_2⟩ | (simp [go_sem, k0_0, k0_1, k0_2, k1_0, k1_1, k1_2])) (first
          | (go_at_call 94; have _t := tok1; refine (rat_Sign _ _ _ _ _ _ _ _ _ _ ((h.ext x0).ext (by exact (Ext.refl _).drew)) ((g.ext x0).ext (by exact (Ext.refl _).drew))).mono ?_; rintro e w1 ⟨rfl, hx1⟩; clear tok1 _t; obtain ⟨k0_0, k0_1, k0_2, f0_0, f0_1, f0_2⟩ := box3 A0 ((((Ext.refl _).drew)).trans hx1); have z0 := (A0.ext ((((Ext.refl _).drew)).trans hx1)).lt; obtain ⟨k1_0, k1_1, k1_2, f1_0, f1_1, f1_2⟩ := box3 A1 ((((Ext.refl _).drew)).trans hx1); have z1 := (A1.ext ((((Ext.refl _).drew)).trans hx1)).lt)
          | (go_at_call 94; refine (rat_Sign _ _ _ _ _ _ _ _ _ _ (((h'.ext x0).ext (by exact (Ext.refl _).drew)).ext hx1) (((g'.ext x0).ext (by exact (Ext.refl _).drew)).ext hx1)).mono ?_; rintro e w2 ⟨rfl, hx2⟩; obtain ⟨k0_0, k0_1, k0_2, f0_0, f0_1, f0_2⟩ := box3 A0 (((((Ext.refl _).drew)).trans hx1).trans hx2); have z0 := (A0.ext (((((Ext.refl _).drew)).trans hx1).trans hx2)).lt; obtain ⟨k1_0, k1_1, k1_2, f1_0, f1_1, f1_2⟩ := box3 A1 (((((Ext.refl _).drew)).trans hx1).trans hx2); have z1 := (A1.ext (((((Ext.refl _).drew)).trans hx1).trans hx2)).lt))
        have y2 : Ext W w2 := ((Ext.refl W).drew.trans hx1).trans hx2
        go_wp2_with fail
        refine (rat_small _ _ _ _ _ _ _ _ _ _ ((h.ext x0).ext y2) ((g.ext x0).ext y2) HA.out.1 HA.out.2).mono ?_
        rintro e w3 ⟨x, y, rfl, i1, i2, i3, i4, hxy, hx3⟩
        have HXY := Lib.hid hxy; clear hxy
        have y3 : Ext W w3 := y2.trans hx3
        obtain ⟨k0_0, k0_1, k0_2, f0_0, f0_1, f0_2⟩ := box3 A0 y3
        have z0 := (A0.ext y3).lt
        obtain ⟨k1_0, k1_1, k1_2, f1_0, f1_1, f1_2⟩ := box3 A1 y3
        have z1 := (A1.ext y3).lt
        go_wp2_with fail
        refine (rat_small_no _ _ _ _ _ _ _ _ _ _ ((h'.ext x0).ext y3) ((g'.ext x0).ext y3) HB.out).mono ?_
        rintro e w4 ⟨rfl, hx4⟩
        have y4 : Ext W w4 := y3.trans hx4
        obtain ⟨k0_0, k0_1, k0_2, f0_0, f0_1, f0_2⟩ := box3 A0 y4
        have z0 := (A0.ext y4).lt
        obtain ⟨k1_0, k1_1, k1_2, f1_0, f1_1, f1_2⟩ := box3 A1 y4
        have z1 := (A1.ext y4).lt
        go_wp2_with fail
        refine (rat_parts _ _ _ _ _ _ _ _ _ _ ((h.ext x0).ext y4) ((g.ext x0).ext y4)).mono ?_
        rintro e w5 ⟨s1, a1, k1, c1, n1, e1, j1, d1, m1, rfl, h1, g1, hm1, hv, l1, l2, hx5⟩
        have HV := Lib.hid hv; clear hv
        have y5 : Ext W w5 := y4.trans hx5
        obtain ⟨k0_0, k0_1, k0_2, f0_0, f0_1, f0_2⟩ := box3 A0 y5
        have z0 := (A0.ext y5).lt
        obtain ⟨k1_0, k1_1, k1_2, f1_0, f1_1, f1_2⟩ := box3 A1 y5
        have z1 := (A1.ext y5).lt
        have P5 := Arr.alloc w5 53 [.bool s1, .slice a1 k1 c1]
        have y5' := y5.alloc (.cells #[.bool s1, .slice a1 k1 c1] 53)
        go_wp2_with fail
        refine (rat_parts _ _ _ _ _ _ _ _ _ _ ((h'.ext x0).ext y5') ((g'.ext x0).ext y5')).mono ?_
        rintro e w6 ⟨s2, a2, k2, c2, n2, e2, j2, d2, m2, rfl, h2, g2, hm2, hv2, l3, l4, hx6⟩
        have HV2 := Lib.hid hv2; clear hv2
        have y6 : Ext W w6 := y5'.trans hx6
        obtain ⟨p0, p1, p2, p3⟩ := box2 P5 hx6
        have pz := (P5.ext hx6).lt
        go_wp2
        obtain ⟨V, hV⟩ : ∃ V, V = w6.alloc (.cells #[.bool s2, .slice a2 k2 c2] 53) := ⟨_, rfl⟩
        rw [← hV]
        have yV : Ext w6 V := by rw [hV]; exact (Ext.refl _).alloc _
        have PV : Arr V w5.heap.size 53 [.bool s1, .slice a1 k1 c1] := (P5.ext hx6).ext yV
        have QV : Arr V w6.heap.size 53 [.bool s2, .slice a2 k2 c2] := by rw [hV]; exact Arr.alloc _ _ _
        clear hV
        have H1 := ((h1.ext ((Ext.refl w5).alloc _)).ext hx6).ext yV
        have G1 := ((g1.ext ((Ext.refl w5).alloc _)).ext hx6).ext yV
        have H2 := h2.ext yV
        have G2 := g2.ext yV
        obtain ⟨p0, p1, p2, p3⟩ := box2 PV (Ext.refl _)
        obtain ⟨q0, q1, q2, q3⟩ := box2 QV (Ext.refl _)
        have tok2 : True := trivial
        go_region_held3 (fun w' => w'.cell? ⟨w5.heap.size, 0, none⟩ = some (.bool s1) ∧ w'.cell? ⟨w5.heap.size, 1, none⟩ = some (.slice a1 k1 c1) ∧ w'.cell? ⟨w6.heap.size, 0, none⟩ = some (.bool s2) ∧ w'.cell? ⟨w6.heap.size, 1, none⟩ = some (.slice a2 k2 c2)) (first | exact ⟨p0, p1, q0, q1⟩ | (simp [go_sem, p0, p1, q0, q1])) (first
          | (go_at_call 134; have _t := tok2; refine (int_Mul _ _ _ _ _ _ _ _ _ _ _ (H1.ext (by exact (Ext.refl _).drew)) (G2.ext (by exact (Ext.refl _).drew)) (by omega) (by omega)).mono ?_; rintro e w7 ⟨a7, c7, rfl, hr7, hf7, hx7⟩; clear tok2 _t; obtain ⟨p0, p1, p2, p3⟩ := box2 PV ((Ext.refl V).drew.trans hx7); obtain ⟨q0, q1, q2, q3⟩ := box2 QV ((Ext.refl V).drew.trans hx7))
          | (go_at_call 134; refine (int_Mul _ _ _ _ _ _ _ _ _ _ _ ((H2.ext (by exact (Ext.refl _).drew)).ext hx7) ((G1.ext (by exact (Ext.refl _).drew)).ext hx7) (by omega) (by omega)).mono ?_; rintro e w8 ⟨a8, c8, rfl, hr8, hf8, hx8⟩; obtain ⟨p0, p1, p2, p3⟩ := box2 PV (((Ext.refl V).drew.trans hx7).trans hx8); obtain ⟨q0, q1, q2, q3⟩ := box2 QV (((Ext.refl V).drew.trans hx7).trans hx8))
          | (go_at_call 133; refine (int_Compare _ _ _ _ _ _ _ _ _ _ _ (hr7.ext hx8) hr8).mono ?_; rintro e w9 ⟨rfl, hx9⟩; obtain ⟨p0, p1, p2, p3⟩ := box2 PV ((((Ext.refl V).drew.trans hx7).trans hx8).trans hx9); obtain ⟨q0, q1, q2, q3⟩ := box2 QV ((((Ext.refl V).drew.trans hx7).trans hx8).trans hx9)))
        go_wp2
        go_ret
        refine ⟨ret_int ?_, (((((x0.trans y6).trans yV).drew).trans hx7).trans hx8).trans hx9⟩
        rw [sgn_num, sgn_num, ← HV.out, ← HV2.out, cmpQ_mkRat _ _ _ _ hm1 hm2]; rfl
    · by_cases hb : n' < 2147483648 ∧ m' < 2147483648
      · have HA := Lib.hid ha; have HB := Lib.hid hb; clear ha hb
        go_enter Tryz.func68, Tryz.ntmps68
        go_wp2
        obtain ⟨W, hW, x0, Z0, A0, A1⟩ := boxes2 w 55 [.bool s, .slice a k c, .slice b j d] 55 [.bool s', .slice a' k' c', .slice b' j' d']
        rw [← hW]
        clear hW
        obtain ⟨k0_0, k0_1, k0_2, f0_0, f0_1, f0_2⟩ := box3 A0 (Ext.refl _)
        have z0 := (A0.ext (Ext.refl _)).lt
        obtain ⟨k1_0, k1_1, k1_2, f1_0, f1_1, f1_2⟩ := box3 A1 (Ext.refl _)
        have z1 := (A1.ext (Ext.refl _)).lt
        have tok1 : True := trivial
        go_region_held3 (fun w' => w'.cell? ⟨w.heap.size, 0, none⟩ = some (.bool s) ∧ w'.cell? ⟨w.heap.size, 1, none⟩ = some (.slice a k c) ∧ w'.cell? ⟨w.heap.size, 2, none⟩ = some (.slice b j d) ∧ w'.cell? ⟨w.heap.size + 1, 0, none⟩ = some (.bool s') ∧ w'.cell? ⟨w.heap.size + 1, 1, none⟩ = some (.slice a' k' c') ∧ w'.cell? ⟨w.heap.size + 1, 2, none⟩ = some (.slice b' j' d')) (first | exact ⟨k0_0, k0_1, k0_2, k1_0, k1_1, k1_2⟩ | (simp [go_sem, k0_0, k0_1, k0_2, k1_0, k1_1, k1_2])) (first
          | (go_at_call 94; have _t := tok1; refine (rat_Sign _ _ _ _ _ _ _ _ _ _ ((h.ext x0).ext (by exact (Ext.refl _).drew)) ((g.ext x0).ext (by exact (Ext.refl _).drew))).mono ?_; rintro e w1 ⟨rfl, hx1⟩; clear tok1 _t; obtain ⟨k0_0, k0_1, k0_2, f0_0, f0_1, f0_2⟩ := box3 A0 ((((Ext.refl _).drew)).trans hx1); have z0 := (A0.ext ((((Ext.refl _).drew)).trans hx1)).lt; obtain ⟨k1_0, k1_1, k1_2, f1_0, f1_1, f1_2⟩ := box3 A1 ((((Ext.refl _).drew)).trans hx1); have z1 := (A1.ext ((((Ext.refl _).drew)).trans hx1)).lt)
          | (go_at_call 94; refine (rat_Sign _ _ _ _ _ _ _ _ _ _ (((h'.ext x0).ext (by exact (Ext.refl _).drew)).ext hx1) (((g'.ext x0).ext (by exact (Ext.refl _).drew)).ext hx1)).mono ?_; rintro e w2 ⟨rfl, hx2⟩; obtain ⟨k0_0, k0_1, k0_2, f0_0, f0_1, f0_2⟩ := box3 A0 (((((Ext.refl _).drew)).trans hx1).trans hx2); have z0 := (A0.ext (((((Ext.refl _).drew)).trans hx1).trans hx2)).lt; obtain ⟨k1_0, k1_1, k1_2, f1_0, f1_1, f1_2⟩ := box3 A1 (((((Ext.refl _).drew)).trans hx1).trans hx2); have z1 := (A1.ext (((((Ext.refl _).drew)).trans hx1).trans hx2)).lt))
        have y2 : Ext W w2 := ((Ext.refl W).drew.trans hx1).trans hx2
        go_wp2_with fail
        refine (rat_small_no _ _ _ _ _ _ _ _ _ _ ((h.ext x0).ext y2) ((g.ext x0).ext y2) HA.out).mono ?_
        rintro e w3 ⟨rfl, hx3⟩
        have y3 : Ext W w3 := y2.trans hx3
        obtain ⟨k0_0, k0_1, k0_2, f0_0, f0_1, f0_2⟩ := box3 A0 y3
        have z0 := (A0.ext y3).lt
        obtain ⟨k1_0, k1_1, k1_2, f1_0, f1_1, f1_2⟩ := box3 A1 y3
        have z1 := (A1.ext y3).lt
        go_wp2_with fail
        refine (rat_small _ _ _ _ _ _ _ _ _ _ ((h'.ext x0).ext y3) ((g'.ext x0).ext y3) HB.out.1 HB.out.2).mono ?_
        rintro e w4 ⟨x', y', rfl, i1', i2', i3', i4', hxy', hx4⟩
        have HXY' := Lib.hid hxy'; clear hxy'
        have y4 : Ext W w4 := y3.trans hx4
        obtain ⟨k0_0, k0_1, k0_2, f0_0, f0_1, f0_2⟩ := box3 A0 y4
        have z0 := (A0.ext y4).lt
        obtain ⟨k1_0, k1_1, k1_2, f1_0, f1_1, f1_2⟩ := box3 A1 y4
        have z1 := (A1.ext y4).lt
        go_wp2_with fail
        refine (rat_parts _ _ _ _ _ _ _ _ _ _ ((h.ext x0).ext y4) ((g.ext x0).ext y4)).mono ?_
        rintro e w5 ⟨s1, a1, k1, c1, n1, e1, j1, d1, m1, rfl, h1, g1, hm1, hv, l1, l2, hx5⟩
        have HV := Lib.hid hv; clear hv
        have y5 : Ext W w5 := y4.trans hx5
        obtain ⟨k0_0, k0_1, k0_2, f0_0, f0_1, f0_2⟩ := box3 A0 y5
        have z0 := (A0.ext y5).lt
        obtain ⟨k1_0, k1_1, k1_2, f1_0, f1_1, f1_2⟩ := box3 A1 y5
        have z1 := (A1.ext y5).lt
        have P5 := Arr.alloc w5 53 [.bool s1, .slice a1 k1 c1]
        have y5' := y5.alloc (.cells #[.bool s1, .slice a1 k1 c1] 53)
        go_wp2_with fail
        refine (rat_parts _ _ _ _ _ _ _ _ _ _ ((h'.ext x0).ext y5') ((g'.ext x0).ext y5')).mono ?_
        rintro e w6 ⟨s2, a2, k2, c2, n2, e2, j2, d2, m2, rfl, h2, g2, hm2, hv2, l3, l4, hx6⟩
        have HV2 := Lib.hid hv2; clear hv2
        have y6 : Ext W w6 := y5'.trans hx6
        obtain ⟨p0, p1, p2, p3⟩ := box2 P5 hx6
        have pz := (P5.ext hx6).lt
        go_wp2
        obtain ⟨V, hV⟩ : ∃ V, V = w6.alloc (.cells #[.bool s2, .slice a2 k2 c2] 53) := ⟨_, rfl⟩
        rw [← hV]
        have yV : Ext w6 V := by rw [hV]; exact (Ext.refl _).alloc _
        have PV : Arr V w5.heap.size 53 [.bool s1, .slice a1 k1 c1] := (P5.ext hx6).ext yV
        have QV : Arr V w6.heap.size 53 [.bool s2, .slice a2 k2 c2] := by rw [hV]; exact Arr.alloc _ _ _
        clear hV
        have H1 := ((h1.ext ((Ext.refl w5).alloc _)).ext hx6).ext yV
        have G1 := ((g1.ext ((Ext.refl w5).alloc _)).ext hx6).ext yV
        have H2 := h2.ext yV
        have G2 := g2.ext yV
        obtain ⟨p0, p1, p2, p3⟩ := box2 PV (Ext.refl _)
        obtain ⟨q0, q1, q2, q3⟩ := box2 QV (Ext.refl _)
        have tok2 : True := trivial
        go_region_held3 (fun w' => w'.cell? ⟨w5.heap.size, 0, none⟩ = some (.bool s1) ∧ w'.cell? ⟨w5.heap.size, 1, none⟩ = some (.slice a1 k1 c1) ∧ w'.cell? ⟨w6.heap.size, 0, none⟩ = some (.bool s2) ∧ w'.cell? ⟨w6.heap.size, 1, none⟩ = some (.slice a2 k2 c2)) (first | exact ⟨p0, p1, q0, q1⟩ | (simp [go_sem, p0, p1, q0, q1])) (first
          | (go_at_call 134; have _t := tok2; refine (int_Mul _ _ _ _ _ _ _ _ _ _ _ (H1.ext (by exact (Ext.refl _).drew)) (G2.ext (by exact (Ext.refl _).drew)) (by omega) (by omega)).mono ?_; rintro e w7 ⟨a7, c7, rfl, hr7, hf7, hx7⟩; clear tok2 _t; obtain ⟨p0, p1, p2, p3⟩ := box2 PV ((Ext.refl V).drew.trans hx7); obtain ⟨q0, q1, q2, q3⟩ := box2 QV ((Ext.refl V).drew.trans hx7))
          | (go_at_call 134; refine (int_Mul _ _ _ _ _ _ _ _ _ _ _ ((H2.ext (by exact (Ext.refl _).drew)).ext hx7) ((G1.ext (by exact (Ext.refl _).drew)).ext hx7) (by omega) (by omega)).mono ?_; rintro e w8 ⟨a8, c8, rfl, hr8, hf8, hx8⟩; obtain ⟨p0, p1, p2, p3⟩ := box2 PV (((Ext.refl V).drew.trans hx7).trans hx8); obtain ⟨q0, q1, q2, q3⟩ := box2 QV (((Ext.refl V).drew.trans hx7).trans hx8))
          | (go_at_call 133; refine (int_Compare _ _ _ _ _ _ _ _ _ _ _ (hr7.ext hx8) hr8).mono ?_; rintro e w9 ⟨rfl, hx9⟩; obtain ⟨p0, p1, p2, p3⟩ := box2 PV ((((Ext.refl V).drew.trans hx7).trans hx8).trans hx9); obtain ⟨q0, q1, q2, q3⟩ := box2 QV ((((Ext.refl V).drew.trans hx7).trans hx8).trans hx9)))
        go_wp2
        go_ret
        refine ⟨ret_int ?_, (((((x0.trans y6).trans yV).drew).trans hx7).trans hx8).trans hx9⟩
        rw [sgn_num, sgn_num, ← HV.out, ← HV2.out, cmpQ_mkRat _ _ _ _ hm1 hm2]; rfl
      · have HA := Lib.hid ha; have HB := Lib.hid hb; clear ha hb
        go_enter Tryz.func68, Tryz.ntmps68
        go_wp2
        obtain ⟨W, hW, x0, Z0, A0, A1⟩ := boxes2 w 55 [.bool s, .slice a k c, .slice b j d] 55 [.bool s', .slice a' k' c', .slice b' j' d']
        rw [← hW]
        clear hW
        obtain ⟨k0_0, k0_1, k0_2, f0_0, f0_1, f0_2⟩ := box3 A0 (Ext.refl _)
        have z0 := (A0.ext (Ext.refl _)).lt
        obtain ⟨k1_0, k1_1, k1_2, f1_0, f1_1, f1_2⟩ := box3 A1 (Ext.refl _)
        have z1 := (A1.ext (Ext.refl _)).lt
        have tok1 : True := trivial
        go_region_held3 (fun w' => w'.cell? ⟨w.heap.size, 0, none⟩ = some (.bool s) ∧ w'.cell? ⟨w.heap.size, 1, none⟩ = some (.slice a k c) ∧ w'.cell? ⟨w.heap.size, 2, none⟩ = some (.slice b j d) ∧ w'.cell? ⟨w.heap.size + 1, 0, none⟩ = some (.bool s') ∧ w'.cell? ⟨w.heap.size + 1, 1, none⟩ = some (.slice a' k' c') ∧ w'.cell? ⟨w.heap.size + 1, 2, none⟩ = some (.slice b' j' d')) (first | exact ⟨k0_0, k0_1, k0_2, k1_0, k1_1, k1_2⟩ | (simp [go_sem, k0_0, k0_1, k0_2, k1_0, k1_1, k1_2])) (first
          | (go_at_call 94; have _t := tok1; refine (rat_Sign _ _ _ _ _ _ _ _ _ _ ((h.ext x0).ext (by exact (Ext.refl _).drew)) ((g.ext x0).ext (by exact (Ext.refl _).drew))).mono ?_; rintro e w1 ⟨rfl, hx1⟩; clear tok1 _t; obtain ⟨k0_0, k0_1, k0_2, f0_0, f0_1, f0_2⟩ := box3 A0 ((((Ext.refl _).drew)).trans hx1); have z0 := (A0.ext ((((Ext.refl _).drew)).trans hx1)).lt; obtain ⟨k1_0, k1_1, k1_2, f1_0, f1_1, f1_2⟩ := box3 A1 ((((Ext.refl _).drew)).trans hx1); have z1 := (A1.ext ((((Ext.refl _).drew)).trans hx1)).lt)
          | (go_at_call 94; refine (rat_Sign _ _ _ _ _ _ _ _ _ _ (((h'.ext x0).ext (by exact (Ext.refl _).drew)).ext hx1) (((g'.ext x0).ext (by exact (Ext.refl _).drew)).ext hx1)).mono ?_; rintro e w2 ⟨rfl, hx2⟩; obtain ⟨k0_0, k0_1, k0_2, f0_0, f0_1, f0_2⟩ := box3 A0 (((((Ext.refl _).drew)).trans hx1).trans hx2); have z0 := (A0.ext (((((Ext.refl _).drew)).trans hx1).trans hx2)).lt; obtain ⟨k1_0, k1_1, k1_2, f1_0, f1_1, f1_2⟩ := box3 A1 (((((Ext.refl _).drew)).trans hx1).trans hx2); have z1 := (A1.ext (((((Ext.refl _).drew)).trans hx1).trans hx2)).lt))
        have y2 : Ext W w2 := ((Ext.refl W).drew.trans hx1).trans hx2
        go_wp2_with fail
        refine (rat_small_no _ _ _ _ _ _ _ _ _ _ ((h.ext x0).ext y2) ((g.ext x0).ext y2) HA.out).mono ?_
        rintro e w3 ⟨rfl, hx3⟩
        have y3 : Ext W w3 := y2.trans hx3
        obtain ⟨k0_0, k0_1, k0_2, f0_0, f0_1, f0_2⟩ := box3 A0 y3
        have z0 := (A0.ext y3).lt
        obtain ⟨k1_0, k1_1, k1_2, f1_0, f1_1, f1_2⟩ := box3 A1 y3
        have z1 := (A1.ext y3).lt
        go_wp2_with fail
        refine (rat_small_no _ _ _ _ _ _ _ _ _ _ ((h'.ext x0).ext y3) ((g'.ext x0).ext y3) HB.out).mono ?_
        rintro e w4 ⟨rfl, hx4⟩
        have y4 : Ext W w4 := y3.trans hx4
        obtain ⟨k0_0, k0_1, k0_2, f0_0, f0_1, f0_2⟩ := box3 A0 y4
        have z0 := (A0.ext y4).lt
        obtain ⟨k1_0, k1_1, k1_2, f1_0, f1_1, f1_2⟩ := box3 A1 y4
        have z1 := (A1.ext y4).lt
        go_wp2_with fail
        refine (rat_parts _ _ _ _ _ _ _ _ _ _ ((h.ext x0).ext y4) ((g.ext x0).ext y4)).mono ?_
        rintro e w5 ⟨s1, a1, k1, c1, n1, e1, j1, d1, m1, rfl, h1, g1, hm1, hv, l1, l2, hx5⟩
        have HV := Lib.hid hv; clear hv
        have y5 : Ext W w5 := y4.trans hx5
        obtain ⟨k0_0, k0_1, k0_2, f0_0, f0_1, f0_2⟩ := box3 A0 y5
        have z0 := (A0.ext y5).lt
        obtain ⟨k1_0, k1_1, k1_2, f1_0, f1_1, f1_2⟩ := box3 A1 y5
        have z1 := (A1.ext y5).lt
        have P5 := Arr.alloc w5 53 [.bool s1, .slice a1 k1 c1]
        have y5' := y5.alloc (.cells #[.bool s1, .slice a1 k1 c1] 53)
        go_wp2_with fail
        refine (rat_parts _ _ _ _ _ _ _ _ _ _ ((h'.ext x0).ext y5') ((g'.ext x0).ext y5')).mono ?_
        rintro e w6 ⟨s2, a2, k2, c2, n2, e2, j2, d2, m2, rfl, h2, g2, hm2, hv2, l3, l4, hx6⟩
        have HV2 := Lib.hid hv2; clear hv2
        have y6 : Ext W w6 := y5'.trans hx6
        obtain ⟨p0, p1, p2, p3⟩ := box2 P5 hx6
        have pz := (P5.ext hx6).lt
        go_wp2
        obtain ⟨V, hV⟩ : ∃ V, V = w6.alloc (.cells #[.bool s2, .slice a2 k2 c2] 53) := ⟨_, rfl⟩
        rw [← hV]
        have yV : Ext w6 V := by rw [hV]; exact (Ext.refl _).alloc _
        have PV : Arr V w5.heap.size 53 [.bool s1, .slice a1 k1 c1] := (P5.ext hx6).ext yV
        have QV : Arr V w6.heap.size 53 [.bool s2, .slice a2 k2 c2] := by rw [hV]; exact Arr.alloc _ _ _
        clear hV
        have H1 := ((h1.ext ((Ext.refl w5).alloc _)).ext hx6).ext yV
        have G1 := ((g1.ext ((Ext.refl w5).alloc _)).ext hx6).ext yV
        have H2 := h2.ext yV
        have G2 := g2.ext yV
        obtain ⟨p0, p1, p2, p3⟩ := box2 PV (Ext.refl _)
        obtain ⟨q0, q1, q2, q3⟩ := box2 QV (Ext.refl _)
        have tok2 : True := trivial
        go_region_held3 (fun w' => w'.cell? ⟨w5.heap.size, 0, none⟩ = some (.bool s1) ∧ w'.cell? ⟨w5.heap.size, 1, none⟩ = some (.slice a1 k1 c1) ∧ w'.cell? ⟨w6.heap.size, 0, none⟩ = some (.bool s2) ∧ w'.cell? ⟨w6.heap.size, 1, none⟩ = some (.slice a2 k2 c2)) (first | exact ⟨p0, p1, q0, q1⟩ | (simp [go_sem, p0, p1, q0, q1])) (first
          | (go_at_call 134; have _t := tok2; refine (int_Mul _ _ _ _ _ _ _ _ _ _ _ (H1.ext (by exact (Ext.refl _).drew)) (G2.ext (by exact (Ext.refl _).drew)) (by omega) (by omega)).mono ?_; rintro e w7 ⟨a7, c7, rfl, hr7, hf7, hx7⟩; clear tok2 _t; obtain ⟨p0, p1, p2, p3⟩ := box2 PV ((Ext.refl V).drew.trans hx7); obtain ⟨q0, q1, q2, q3⟩ := box2 QV ((Ext.refl V).drew.trans hx7))
          | (go_at_call 134; refine (int_Mul _ _ _ _ _ _ _ _ _ _ _ ((H2.ext (by exact (Ext.refl _).drew)).ext hx7) ((G1.ext (by exact (Ext.refl _).drew)).ext hx7) (by omega) (by omega)).mono ?_; rintro e w8 ⟨a8, c8, rfl, hr8, hf8, hx8⟩; obtain ⟨p0, p1, p2, p3⟩ := box2 PV (((Ext.refl V).drew.trans hx7).trans hx8); obtain ⟨q0, q1, q2, q3⟩ := box2 QV (((Ext.refl V).drew.trans hx7).trans hx8))
          | (go_at_call 133; refine (int_Compare _ _ _ _ _ _ _ _ _ _ _ (hr7.ext hx8) hr8).mono ?_; rintro e w9 ⟨rfl, hx9⟩; obtain ⟨p0, p1, p2, p3⟩ := box2 PV ((((Ext.refl V).drew.trans hx7).trans hx8).trans hx9); obtain ⟨q0, q1, q2, q3⟩ := box2 QV ((((Ext.refl V).drew.trans hx7).trans hx8).trans hx9)))
        go_wp2
        go_ret
        refine ⟨ret_int ?_, (((((x0.trans y6).trans yV).drew).trans hx7).trans hx8).trans hx9⟩
        rw [sgn_num, sgn_num, ← HV.out, ← HV2.out, cmpQ_mkRat _ _ _ _ hm1 hm2]; rfl
  · have hs' : ((mkRat (sgn s n) m).num.sign != (mkRat (sgn s' n') m').num.sign) = true := by rw [bne_iff_ne]; exact hs
    have e1 := cmpQ_sign hs
    have E1 := Lib.hid e1; clear e1 hs
    go_enter Tryz.func68, Tryz.ntmps68
    go_wp2
    obtain ⟨W, hW, x0, Z0, A0, A1⟩ := boxes2 w 55 [.bool s, .slice a k c, .slice b j d] 55 [.bool s', .slice a' k' c', .slice b' j' d']
    rw [← hW]
    clear hW
    obtain ⟨k0_0, k0_1, k0_2, f0_0, f0_1, f0_2⟩ := box3 A0 (Ext.refl _)
    have z0 := (A0.ext (Ext.refl _)).lt
    obtain ⟨k1_0, k1_1, k1_2, f1_0, f1_1, f1_2⟩ := box3 A1 (Ext.refl _)
    have z1 := (A1.ext (Ext.refl _)).lt
    have tok1 : True := trivial
    go_region_held3 (fun w' => w'.cell? ⟨w.heap.size, 0, none⟩ = some (.bool s) ∧ w'.cell? ⟨w.heap.size, 1, none⟩ = some (.slice a k c) ∧ w'.cell? ⟨w.heap.size, 2, none⟩ = some (.slice b j d) ∧ w'.cell? ⟨w.heap.size + 1, 0, none⟩ = some (.bool s') ∧ w'.cell? ⟨w.heap.size + 1, 1, none⟩ = some (.slice a' k' c') ∧ w'.cell? ⟨w.heap.size + 1, 2, none⟩ = some (.slice b' j' d')) (first | exact ⟨k0_0, k0_1, k0_2, k1_0, k1_1, k1_2⟩ | (simp [go_sem, k0_0, k0_1, k0_2, k1_0, k1_1, k1_2])) (first
      | (go_at_call 94; have _t := tok1; refine (rat_Sign _ _ _ _ _ _ _ _ _ _ ((h.ext x0).ext (by exact (Ext.refl _).drew)) ((g.ext x0).ext (by exact (Ext.refl _).drew))).mono ?_; rintro e w1 ⟨rfl, hx1⟩; clear tok1 _t; obtain ⟨k0_0, k0_1, k0_2, f0_0, f0_1, f0_2⟩ := box3 A0 ((((Ext.refl _).drew)).trans hx1); have z0 := (A0.ext ((((Ext.refl _).drew)).trans hx1)).lt; obtain ⟨k1_0, k1_1, k1_2, f1_0, f1_1, f1_2⟩ := box3 A1 ((((Ext.refl _).drew)).trans hx1); have z1 := (A1.ext ((((Ext.refl _).drew)).trans hx1)).lt)
      | (go_at_call 94; refine (rat_Sign _ _ _ _ _ _ _ _ _ _ (((h'.ext x0).ext (by exact (Ext.refl _).drew)).ext hx1) (((g'.ext x0).ext (by exact (Ext.refl _).drew)).ext hx1)).mono ?_; rintro e w2 ⟨rfl, hx2⟩; obtain ⟨k0_0, k0_1, k0_2, f0_0, f0_1, f0_2⟩ := box3 A0 (((((Ext.refl _).drew)).trans hx1).trans hx2); have z0 := (A0.ext (((((Ext.refl _).drew)).trans hx1).trans hx2)).lt; obtain ⟨k1_0, k1_1, k1_2, f1_0, f1_1, f1_2⟩ := box3 A1 (((((Ext.refl _).drew)).trans hx1).trans hx2); have z1 := (A1.ext (((((Ext.refl _).drew)).trans hx1).trans hx2)).lt))
    have y2 : Ext W w2 := ((Ext.refl W).drew.trans hx1).trans hx2
    go_wp2_with fail
    refine (cmp_int _ _ _).mono ?_
    rintro e w3 ⟨rfl, rfl⟩
    go_wp2
    go_ret
    exact ⟨ret_int E1.out, x0.trans y2⟩

end Go.Proofs.YtgihpfkjpfanmaaGreat

/- Contracts of rational.Add, Sub, Div. -/
namespace Go.Proofs.YtgihpfkjpfanmaaGreat
open Go.RowKit

theorem sign_zero_iff {p : Rat} : p.num.sign = 0 ↔ p = 0 := by rw [Int.sign_eq_zero_iff_zero, Rat.num_eq_zero]
theorem mkRat_add (x x' : Int) (y y' : Nat) (h : 0 < y) (h' : 0 < y') : mkRat (x * y' + x' * y) (y * y') = mkRat x y + mkRat x' y' := (Rat.mkRat_add_mkRat x x' (by omega) (by omega)).symm
theorem mkRat_add_same (x x' : Int) (y : Nat) (h : 0 < y) : mkRat (x + x') y = mkRat x y + mkRat x' y := by
  rw [← mkRat_add _ _ _ _ h h, ← Int.add_mul, Rat.mkRat_mul_right (by omega)]
theorem len_intAdd (x y : Int) : len (x + y).natAbs ≤ max (len x.natAbs) (len y.natAbs) + 1 :=
  Nat.le_trans (len_mono (Int.natAbs_add_le x y)) (len_add _ _)

set_option maxHeartbeats 1000000 in
/-- rational.Add, the first number is 0. -/
theorem rat_Add_zero1 (w : World) (s : Bool) (a b : Option Addr) (k c j d n m : Nat) (h : Raw w a k c n) (g : Raw w b j d m) (s' : Bool) (a' b' : Option Addr) (k' c' j' d' n' m' : Nat) (h' : Raw w a' k' c' n') (g' : Raw w b' j' d' m') (_b1 : len n < 100000000) (_b2 : len m < 100000000) (b1' : len n' < 100000000) (b2' : len m' < 100000000) (h0 : mkRat (sgn s n) m = 0) :
    Calls Tryz.prog 136 #[.agg #[.bool s, .slice a k c, .slice b j d], .agg #[.bool s', .slice a' k' c', .slice b' j' d']] w (NewRat (mkRat (sgn s n) m + mkRat (sgn s' n') m') w) := by
  have hs : (mkRat (sgn s n) m).num.sign = 0 := sign_zero_iff.2 h0
  have H0 := Lib.hid h0; clear h0
  go_enter Tryz.func136, Tryz.ntmps136
  go_wp2_with fail
  obtain ⟨W, hW, x0, Z0, A0, A1, A2⟩ := boxes3 w 55 [.bool s, .slice a k c, .slice b j d] 55 [.bool s', .slice a' k' c', .slice b' j' d'] 55 [.bool false, .slice none 0 0, .slice none 0 0]
  rw [← hW]
  clear hW
  obtain ⟨k0_0, k0_1, k0_2, f0_0, f0_1, f0_2⟩ := box3 A0 (Ext.refl _)
  have z0 := (A0.ext (Ext.refl _)).lt
  obtain ⟨k1_0, k1_1, k1_2, f1_0, f1_1, f1_2⟩ := box3 A1 (Ext.refl _)
  have z1 := (A1.ext (Ext.refl _)).lt
  obtain ⟨k2_0, k2_1, k2_2, f2_0, f2_1, f2_2⟩ := box3 A2 (Ext.refl _)
  have z2 := (A2.ext (Ext.refl _)).lt
  refine (rat_Sign _ _ _ _ _ _ _ _ _ _ (h.ext x0) (g.ext x0)).mono ?_
  rintro e w1 ⟨rfl, hx1⟩
  obtain ⟨k0_0, k0_1, k0_2, f0_0, f0_1, f0_2⟩ := box3 A0 hx1
  have z0 := (A0.ext hx1).lt
  obtain ⟨k1_0, k1_1, k1_2, f1_0, f1_1, f1_2⟩ := box3 A1 hx1
  have z1 := (A1.ext hx1).lt
  obtain ⟨k2_0, k2_1, k2_2, f2_0, f2_1, f2_2⟩ := box3 A2 hx1
  have z2 := (A2.ext hx1).lt
  rw [hs]
  clear hs
  go_wp2_with fail
  refine (rat_Norm _ _ _ _ _ _ _ _ _ _ ((h'.ext x0).ext hx1) ((g'.ext x0).ext hx1) b1' b2').mono ?_
  intro e wz hN
  rw [← Rat.zero_add (mkRat (sgn s' n') m'), ← H0.out] at hN
  obtain ⟨az, cz, az', cz', rfl, hrz, hfz, hrz', hfz', hxz⟩ := id hN
  obtain ⟨k0_0, k0_1, k0_2, f0_0, f0_1, f0_2⟩ := box3 A0 (hx1.trans hxz)
  have z0 := (A0.ext (hx1.trans hxz)).lt
  obtain ⟨k1_0, k1_1, k1_2, f1_0, f1_1, f1_2⟩ := box3 A1 (hx1.trans hxz)
  have z1 := (A1.ext (hx1.trans hxz)).lt
  obtain ⟨k2_0, k2_1, k2_2, f2_0, f2_1, f2_2⟩ := box3 A2 (hx1.trans hxz)
  have z2 := (A2.ext (hx1.trans hxz)).lt
  go_wp2
  exact bodyPost_ret (by simp [results, Tryz.results136, go_sem, *]) rfl (NewRat.touch (hN.base hx1) x0 (Touch.three _ (by omega) (by rw [Z0.out]; omega) _ _ _))

set_option maxHeartbeats 1000000 in
/-- rational.Add, the second number is 0. -/
theorem rat_Add_zero2 (w : World) (s : Bool) (a b : Option Addr) (k c j d n m : Nat) (h : Raw w a k c n) (g : Raw w b j d m) (s' : Bool) (a' b' : Option Addr) (k' c' j' d' n' m' : Nat) (h' : Raw w a' k' c' n') (g' : Raw w b' j' d' m') (b1 : len n < 100000000) (b2 : len m < 100000000) (_b1' : len n' < 100000000) (_b2' : len m' < 100000000) (hn0 : ¬ mkRat (sgn s n) m = 0) (h0 : mkRat (sgn s' n') m' = 0) :
    Calls Tryz.prog 136 #[.agg #[.bool s, .slice a k c, .slice b j d], .agg #[.bool s', .slice a' k' c', .slice b' j' d']] w (NewRat (mkRat (sgn s n) m + mkRat (sgn s' n') m') w) := by
  have hs : (mkRat (sgn s' n') m').num.sign = 0 := sign_zero_iff.2 h0
  have hs1 : ((mkRat (sgn s n) m).num.sign == 0) = false := by rw [beq_eq_false_iff_ne]; exact fun h => hn0 (sign_zero_iff.1 h)
  have H0 := Lib.hid h0; clear h0 hn0
  go_enter Tryz.func136, Tryz.ntmps136
  go_wp2_with fail
  obtain ⟨W, hW, x0, Z0, A0, A1, A2⟩ := boxes3 w 55 [.bool s, .slice a k c, .slice b j d] 55 [.bool s', .slice a' k' c', .slice b' j' d'] 55 [.bool false, .slice none 0 0, .slice none 0 0]
  rw [← hW]
  clear hW
  obtain ⟨k0_0, k0_1, k0_2, f0_0, f0_1, f0_2⟩ := box3 A0 (Ext.refl _)
  have z0 := (A0.ext (Ext.refl _)).lt
  obtain ⟨k1_0, k1_1, k1_2, f1_0, f1_1, f1_2⟩ := box3 A1 (Ext.refl _)
  have z1 := (A1.ext (Ext.refl _)).lt
  obtain ⟨k2_0, k2_1, k2_2, f2_0, f2_1, f2_2⟩ := box3 A2 (Ext.refl _)
  have z2 := (A2.ext (Ext.refl _)).lt
  refine (rat_Sign _ _ _ _ _ _ _ _ _ _ (h.ext x0) (g.ext x0)).mono ?_
  rintro e w1 ⟨rfl, hx1⟩
  obtain ⟨k0_0, k0_1, k0_2, f0_0, f0_1, f0_2⟩ := box3 A0 hx1
  have z0 := (A0.ext hx1).lt
  obtain ⟨k1_0, k1_1, k1_2, f1_0, f1_1, f1_2⟩ := box3 A1 hx1
  have z1 := (A1.ext hx1).lt
  obtain ⟨k2_0, k2_1, k2_2, f2_0, f2_1, f2_2⟩ := box3 A2 hx1
  have z2 := (A2.ext hx1).lt
  go_wp2_with fail
  refine (rat_Sign _ _ _ _ _ _ _ _ _ _ ((h'.ext x0).ext hx1) ((g'.ext x0).ext hx1)).mono ?_
  rintro e w2 ⟨rfl, hx2⟩
  have y2 : Ext W w2 := hx1.trans hx2
  obtain ⟨k0_0, k0_1, k0_2, f0_0, f0_1, f0_2⟩ := box3 A0 y2
  have z0 := (A0.ext y2).lt
  obtain ⟨k1_0, k1_1, k1_2, f1_0, f1_1, f1_2⟩ := box3 A1 y2
  have z1 := (A1.ext y2).lt
  obtain ⟨k2_0, k2_1, k2_2, f2_0, f2_1, f2_2⟩ := box3 A2 y2
  have z2 := (A2.ext y2).lt
  rw [hs]
  clear hs
  go_wp2_with fail
  refine (rat_Norm _ _ _ _ _ _ _ _ _ _ ((h.ext x0).ext y2) ((g.ext x0).ext y2) b1 b2).mono ?_
  intro e wz hN
  rw [← Rat.add_zero (mkRat (sgn s n) m), ← H0.out] at hN
  obtain ⟨az, cz, az', cz', rfl, hrz, hfz, hrz', hfz', hxz⟩ := id hN
  obtain ⟨k0_0, k0_1, k0_2, f0_0, f0_1, f0_2⟩ := box3 A0 (y2.trans hxz)
  have z0 := (A0.ext (y2.trans hxz)).lt
  obtain ⟨k1_0, k1_1, k1_2, f1_0, f1_1, f1_2⟩ := box3 A1 (y2.trans hxz)
  have z1 := (A1.ext (y2.trans hxz)).lt
  obtain ⟨k2_0, k2_1, k2_2, f2_0, f2_1, f2_2⟩ := box3 A2 (y2.trans hxz)
  have z2 := (A2.ext (y2.trans hxz)).lt
  go_wp2
  exact bodyPost_ret (by simp [results, Tryz.results136, go_sem, *]) rfl (NewRat.touch (hN.base y2) x0 (Touch.three _ (by omega) (by rw [Z0.out]; omega) _ _ _))


set_option maxHeartbeats 4000000 in
set_option maxRecDepth 100000 in
theorem rat_Add_tt (w : World) (s : Bool) (a b : Option Addr) (k c j d n m : Nat) (h : Raw w a k c n) (g : Raw w b j d m) (s' : Bool) (a' b' : Option Addr) (k' c' j' d' n' m' : Nat) (h' : Raw w a' k' c' n') (g' : Raw w b' j' d' m') (_b1 : len n < 100000000) (_b2 : len m < 100000000) (_b1' : len n' < 100000000) (_b2' : len m' < 100000000) (hn0 : ¬ mkRat (sgn s n) m = 0) (hn0' : ¬ mkRat (sgn s' n') m' = 0) (ha : n < 2147483648 ∧ m < 2147483648) (hb : n' < 2147483648 ∧ m' < 2147483648) :
    Calls Tryz.prog 136 #[.agg #[.bool s, .slice a k c, .slice b j d], .agg #[.bool s', .slice a' k' c', .slice b' j' d']] w (NewRat (mkRat (sgn s n) m + mkRat (sgn s' n') m') w) := by
  have hs1 : ((mkRat (sgn s n) m).num.sign == 0) = false := by rw [beq_eq_false_iff_ne]; exact fun h => hn0 (sign_zero_iff.1 h)
  have hs2 : ((mkRat (sgn s' n') m').num.sign == 0) = false := by rw [beq_eq_false_iff_ne]; exact fun h => hn0' (sign_zero_iff.1 h)
  clear hn0 hn0'
  have HA := Lib.hid ha; have HB := Lib.hid hb; clear ha hb
  go_enter Tryz.func136, Tryz.ntmps136
  go_wp2_with fail
  obtain ⟨W, hW, x0, Z0, A0, A1, A2⟩ := boxes3 w 55 [.bool s, .slice a k c, .slice b j d] 55 [.bool s', .slice a' k' c', .slice b' j' d'] 55 [.bool false, .slice none 0 0, .slice none 0 0]
  rw [← hW]
  clear hW
  obtain ⟨k0_0, k0_1, k0_2, f0_0, f0_1, f0_2⟩ := box3 A0 (Ext.refl _)
  have z0 := (A0.ext (Ext.refl _)).lt
  obtain ⟨k1_0, k1_1, k1_2, f1_0, f1_1, f1_2⟩ := box3 A1 (Ext.refl _)
  have z1 := (A1.ext (Ext.refl _)).lt
  obtain ⟨k2_0, k2_1, k2_2, f2_0, f2_1, f2_2⟩ := box3 A2 (Ext.refl _)
  have z2 := (A2.ext (Ext.refl _)).lt
  refine (rat_Sign _ _ _ _ _ _ _ _ _ _ (h.ext x0) (g.ext x0)).mono ?_
  rintro e w1 ⟨rfl, hx1⟩
  obtain ⟨k0_0, k0_1, k0_2, f0_0, f0_1, f0_2⟩ := box3 A0 hx1
  have z0 := (A0.ext hx1).lt
  obtain ⟨k1_0, k1_1, k1_2, f1_0, f1_1, f1_2⟩ := box3 A1 hx1
  have z1 := (A1.ext hx1).lt
  obtain ⟨k2_0, k2_1, k2_2, f2_0, f2_1, f2_2⟩ := box3 A2 hx1
  have z2 := (A2.ext hx1).lt
  go_wp2_with fail
  refine (rat_Sign _ _ _ _ _ _ _ _ _ _ ((h'.ext x0).ext hx1) ((g'.ext x0).ext hx1)).mono ?_
  rintro e w2 ⟨rfl, hx2⟩
  have y2 : Ext W w2 := hx1.trans hx2
  obtain ⟨k0_0, k0_1, k0_2, f0_0, f0_1, f0_2⟩ := box3 A0 y2
  have z0 := (A0.ext y2).lt
  obtain ⟨k1_0, k1_1, k1_2, f1_0, f1_1, f1_2⟩ := box3 A1 y2
  have z1 := (A1.ext y2).lt
  obtain ⟨k2_0, k2_1, k2_2, f2_0, f2_1, f2_2⟩ := box3 A2 y2
  have z2 := (A2.ext y2).lt
  go_wp2_with fail
  refine (rat_small _ _ _ _ _ _ _ _ _ _ ((h.ext x0).ext y2) ((g.ext x0).ext y2) HA.out.1 HA.out.2).mono ?_
  rintro e w3 ⟨x, y, rfl, i1, i2, i3, i4, hxy, hx3⟩
  have HXY := Lib.hid hxy; clear hxy
  have y3 : Ext W w3 := y2.trans hx3
  obtain ⟨k0_0, k0_1, k0_2, f0_0, f0_1, f0_2⟩ := box3 A0 y3
  have z0 := (A0.ext y3).lt
  obtain ⟨k1_0, k1_1, k1_2, f1_0, f1_1, f1_2⟩ := box3 A1 y3
  have z1 := (A1.ext y3).lt
  obtain ⟨k2_0, k2_1, k2_2, f2_0, f2_1, f2_2⟩ := box3 A2 y3
  have z2 := (A2.ext y3).lt
  go_wp2_with fail
  refine (rat_small _ _ _ _ _ _ _ _ _ _ ((h'.ext x0).ext y3) ((g'.ext x0).ext y3) HB.out.1 HB.out.2).mono ?_
  rintro e w4 ⟨x', y', rfl, i1', i2', i3', i4', hxy', hx4⟩
  have HXY' := Lib.hid hxy'; clear hxy'
  have y4 : Ext W w4 := y3.trans hx4
  obtain ⟨k0_0, k0_1, k0_2, f0_0, f0_1, f0_2⟩ := box3 A0 y4
  have z0 := (A0.ext y4).lt
  obtain ⟨k1_0, k1_1, k1_2, f1_0, f1_1, f1_2⟩ := box3 A1 y4
  have z1 := (A1.ext y4).lt
  obtain ⟨k2_0, k2_1, k2_2, f2_0, f2_1, f2_2⟩ := box3 A2 y4
  have z2 := (A2.ext y4).lt
  obtain ⟨m1, m2⟩ := small_mul i1 i2 (by omega : -2147483648 < (y' : Int)) (by omega)
  obtain ⟨m3, m4⟩ := small_mul i1' i2' (by omega : -2147483648 < (y : Int)) (by omega)
  obtain ⟨m5, m6⟩ := small_mul_nat i3 i4 i3' i4'
  have m5' : 0 < (y : Int) * (y' : Int) := by rw [← Int.natCast_mul]; omega
  have m6' : (y : Int) * (y' : Int) ≤ 4611686018427387904 := by rw [← Int.natCast_mul]; omega
  have o1 : x * (y' : Int) + x' * (y : Int) < 9223372036854775808 := by
    by_cases hh : x < 0
    · have := Int.mul_nonpos_of_nonpos_of_nonneg (Int.le_of_lt hh) (by omega : (0 : Int) ≤ (y' : Int)); omega
    · have : x * (y' : Int) ≤ 2147483647 * 2147483647 := Int.mul_le_mul (by omega) (by omega) (by omega) (by omega)
      omega
  have o2 : -9223372036854775808 < x * (y' : Int) + x' * (y : Int) := by
    by_cases hh : x < 0
    · have : (-x) * (y' : Int) ≤ 2147483647 * 2147483647 := Int.mul_le_mul (by omega) (by omega) (by omega) (by omega)
      rw [Int.neg_mul] at this
      omega
    · have := Int.mul_nonneg (by omega : (0 : Int) ≤ x) (by omega : (0 : Int) ≤ (y' : Int)); omega
  go_wp2_with fail
  rw [← Int.natCast_mul]
  refine (rat_quotient _ _ _ (by omega) (by omega) m5 (by omega)).mono ?_
  intro e wz hN
  rw [mkRat_add _ _ _ _ i3 i3', HXY.out, HXY'.out] at hN
  obtain ⟨az, cz, az', cz', rfl, hrz, hfz, hrz', hfz', hxz⟩ := id hN
  obtain ⟨k0_0, k0_1, k0_2, f0_0, f0_1, f0_2⟩ := box3 A0 (y4.trans hxz)
  have z0 := (A0.ext (y4.trans hxz)).lt
  obtain ⟨k1_0, k1_1, k1_2, f1_0, f1_1, f1_2⟩ := box3 A1 (y4.trans hxz)
  have z1 := (A1.ext (y4.trans hxz)).lt
  obtain ⟨k2_0, k2_1, k2_2, f2_0, f2_1, f2_2⟩ := box3 A2 (y4.trans hxz)
  have z2 := (A2.ext (y4.trans hxz)).lt
  go_wp2
  exact bodyPost_ret (by simp [results, Tryz.results136, go_sem, *]) rfl (NewRat.touch (hN.base y4) x0 (Touch.three _ (by omega) (by rw [Z0.out]; omega) _ _ _))

set_option maxHeartbeats 4000000 in
set_option maxRecDepth 100000 in
theorem rat_Add_tf (w : World) (s : Bool) (a b : Option Addr) (k c j d n m : Nat) (h : Raw w a k c n) (g : Raw w b j d m) (s' : Bool) (a' b' : Option Addr) (k' c' j' d' n' m' : Nat) (h' : Raw w a' k' c' n') (g' : Raw w b' j' d' m') (b1 : len n < 100000000) (b2 : len m < 100000000) (b1' : len n' < 100000000) (b2' : len m' < 100000000) (hn0 : ¬ mkRat (sgn s n) m = 0) (hn0' : ¬ mkRat (sgn s' n') m' = 0) (ha : n < 2147483648 ∧ m < 2147483648) (hb : ¬ (n' < 2147483648 ∧ m' < 2147483648)) :
    Calls Tryz.prog 136 #[.agg #[.bool s, .slice a k c, .slice b j d], .agg #[.bool s', .slice a' k' c', .slice b' j' d']] w (NewRat (mkRat (sgn s n) m + mkRat (sgn s' n') m') w) := by
  have hs1 : ((mkRat (sgn s n) m).num.sign == 0) = false := by rw [beq_eq_false_iff_ne]; exact fun h => hn0 (sign_zero_iff.1 h)
  have hs2 : ((mkRat (sgn s' n') m').num.sign == 0) = false := by rw [beq_eq_false_iff_ne]; exact fun h => hn0' (sign_zero_iff.1 h)
  clear hn0 hn0'
  have HA := Lib.hid ha; have HB := Lib.hid hb; clear ha hb
  go_enter Tryz.func136, Tryz.ntmps136
  go_wp2_with fail
  obtain ⟨W, hW, x0, Z0, A0, A1, A2⟩ := boxes3 w 55 [.bool s, .slice a k c, .slice b j d] 55 [.bool s', .slice a' k' c', .slice b' j' d'] 55 [.bool false, .slice none 0 0, .slice none 0 0]
  rw [← hW]
  clear hW
  obtain ⟨k0_0, k0_1, k0_2, f0_0, f0_1, f0_2⟩ := box3 A0 (Ext.refl _)
  have z0 := (A0.ext (Ext.refl _)).lt
  obtain ⟨k1_0, k1_1, k1_2, f1_0, f1_1, f1_2⟩ := box3 A1 (Ext.refl _)
  have z1 := (A1.ext (Ext.refl _)).lt
  obtain ⟨k2_0, k2_1, k2_2, f2_0, f2_1, f2_2⟩ := box3 A2 (Ext.refl _)
  have z2 := (A2.ext (Ext.refl _)).lt
  refine (rat_Sign _ _ _ _ _ _ _ _ _ _ (h.ext x0) (g.ext x0)).mono ?_
  rintro e w1 ⟨rfl, hx1⟩
  obtain ⟨k0_0, k0_1, k0_2, f0_0, f0_1, f0_2⟩ := box3 A0 hx1
  have z0 := (A0.ext hx1).lt
  obtain ⟨k1_0, k1_1, k1_2, f1_0, f1_1, f1_2⟩ := box3 A1 hx1
  have z1 := (A1.ext hx1).lt
  obtain ⟨k2_0, k2_1, k2_2, f2_0, f2_1, f2_2⟩ := box3 A2 hx1
  have z2 := (A2.ext hx1).lt
  go_wp2_with fail
  refine (rat_Sign _ _ _ _ _ _ _ _ _ _ ((h'.ext x0).ext hx1) ((g'.ext x0).ext hx1)).mono ?_
  rintro e w2 ⟨rfl, hx2⟩
  have y2 : Ext W w2 := hx1.trans hx2
  obtain ⟨k0_0, k0_1, k0_2, f0_0, f0_1, f0_2⟩ := box3 A0 y2
  have z0 := (A0.ext y2).lt
  obtain ⟨k1_0, k1_1, k1_2, f1_0, f1_1, f1_2⟩ := box3 A1 y2
  have z1 := (A1.ext y2).lt
  obtain ⟨k2_0, k2_1, k2_2, f2_0, f2_1, f2_2⟩ := box3 A2 y2
  have z2 := (A2.ext y2).lt
  go_wp2_with fail
  refine (rat_small _ _ _ _ _ _ _ _ _ _ ((h.ext x0).ext y2) ((g.ext x0).ext y2) HA.out.1 HA.out.2).mono ?_
  rintro e w3 ⟨x, y, rfl, i1, i2, i3, i4, hxy, hx3⟩
  have HXY := Lib.hid hxy; clear hxy
  have y3 : Ext W w3 := y2.trans hx3
  obtain ⟨k0_0, k0_1, k0_2, f0_0, f0_1, f0_2⟩ := box3 A0 y3
  have z0 := (A0.ext y3).lt
  obtain ⟨k1_0, k1_1, k1_2, f1_0, f1_1, f1_2⟩ := box3 A1 y3
  have z1 := (A1.ext y3).lt
  obtain ⟨k2_0, k2_1, k2_2, f2_0, f2_1, f2_2⟩ := box3 A2 y3
  have z2 := (A2.ext y3).lt
  go_wp2_with fail
  refine (rat_small_no _ _ _ _ _ _ _ _ _ _ ((h'.ext x0).ext y3) ((g'.ext x0).ext y3) HB.out).mono ?_
  rintro e w4 ⟨rfl, hx4⟩
  have y4 : Ext W w4 := y3.trans hx4
  obtain ⟨k0_0, k0_1, k0_2, f0_0, f0_1, f0_2⟩ := box3 A0 y4
  have z0 := (A0.ext y4).lt
  obtain ⟨k1_0, k1_1, k1_2, f1_0, f1_1, f1_2⟩ := box3 A1 y4
  have z1 := (A1.ext y4).lt
  obtain ⟨k2_0, k2_1, k2_2, f2_0, f2_1, f2_2⟩ := box3 A2 y4
  have z2 := (A2.ext y4).lt
  go_wp2_with fail
  refine (rat_parts _ _ _ _ _ _ _ _ _ _ ((h.ext x0).ext y4) ((g.ext x0).ext y4)).mono ?_
  rintro e w5 ⟨s1, a1, k1, c1, n1, e1, j1, d1, m1, rfl, h1, g1, hm1, hv, l1, l2, hx5⟩
  have HV := Lib.hid hv; clear hv
  have y5 : Ext W w5 := y4.trans hx5
  obtain ⟨k0_0, k0_1, k0_2, f0_0, f0_1, f0_2⟩ := box3 A0 y5
  have z0 := (A0.ext y5).lt
  obtain ⟨k1_0, k1_1, k1_2, f1_0, f1_1, f1_2⟩ := box3 A1 y5
  have z1 := (A1.ext y5).lt
  obtain ⟨k2_0, k2_1, k2_2, f2_0, f2_1, f2_2⟩ := box3 A2 y5
  have z2 := (A2.ext y5).lt
  have P5 := Arr.alloc w5 53 [.bool s1, .slice a1 k1 c1]
  have y5' := y5.alloc (.cells #[.bool s1, .slice a1 k1 c1] 53)
  go_wp2_with fail
  refine (rat_parts _ _ _ _ _ _ _ _ _ _ ((h'.ext x0).ext y5') ((g'.ext x0).ext y5')).mono ?_
  rintro e w6 ⟨s2, a2, k2, c2, n2, e2, j2, d2, m2, rfl, h2, g2, hm2, hv2, l3, l4, hx6⟩
  have HV2 := Lib.hid hv2; clear hv2
  have y6 : Ext W w6 := y5'.trans hx6
  obtain ⟨k0_0, k0_1, k0_2, f0_0, f0_1, f0_2⟩ := box3 A0 y6
  have z0 := (A0.ext y6).lt
  obtain ⟨k1_0, k1_1, k1_2, f1_0, f1_1, f1_2⟩ := box3 A1 y6
  have z1 := (A1.ext y6).lt
  obtain ⟨k2_0, k2_1, k2_2, f2_0, f2_1, f2_2⟩ := box3 A2 y6
  have z2 := (A2.ext y6).lt
  obtain ⟨p0, p1, p2, p3⟩ := box2 P5 hx6
  have pz := (P5.ext hx6).lt
  have yV : Ext w6 (w6.alloc (.cells #[.bool s2, .slice a2 k2 c2] 53)) := (Ext.refl _).alloc _
  have PV := (P5.ext hx6).ext yV
  have QV := Arr.alloc w6 53 [.bool s2, .slice a2 k2 c2]
  have H1 := ((h1.ext ((Ext.refl w5).alloc _)).ext hx6).ext yV
  have G1 := ((g1.ext ((Ext.refl w5).alloc _)).ext hx6).ext yV
  have H2 := h2.ext yV
  have G2 := g2.ext yV
  have yW := y6.trans yV
  go_wp2_with fail
  refine (nat_Compare _ _ _ _ _ _ _ _ _ G1 G2).mono ?_
  rintro e w7 ⟨rfl, hq7⟩
  have y7 : Ext W w7 := yW.trans hq7.ext
  obtain ⟨k0_0, k0_1, k0_2, f0_0, f0_1, f0_2⟩ := box3 A0 y7
  have z0 := (A0.ext y7).lt
  obtain ⟨k1_0, k1_1, k1_2, f1_0, f1_1, f1_2⟩ := box3 A1 y7
  have z1 := (A1.ext y7).lt
  obtain ⟨k2_0, k2_1, k2_2, f2_0, f2_1, f2_2⟩ := box3 A2 y7
  have z2 := (A2.ext y7).lt
  have P7 := PV.ext hq7.ext
  have Q7 := QV.ext hq7.ext
  obtain ⟨p0, p1, p2, p3⟩ := box2 P7 (Ext.refl _)
  obtain ⟨q0, q1, q2, q3⟩ := box2 Q7 (Ext.refl _)
  have pz := P7.lt
  have qz := Q7.lt
  have H1 := H1.ext hq7.ext
  have H2 := H2.ext hq7.ext
  have G1 := G1.ext hq7.ext
  have G2 := G2.ext hq7.ext
  by_cases heq : m1 = m2
  · subst heq
    have hcm : cmpN m1 m1 = 0 := by unfold cmpN; simp
    rw [hcm]; clear hcm
    go_wp2_with fail
    refine (int_Add _ _ _ _ _ _ _ _ _ _ _ H1 H2 (by omega) (by omega)).mono ?_
    rintro e w8 ⟨a8, c8, rfl, hr8, hf8, hx8⟩
    have y8 : Ext W w8 := y7.trans hx8
    obtain ⟨k0_0, k0_1, k0_2, f0_0, f0_1, f0_2⟩ := box3 A0 y8
    have z0 := (A0.ext y8).lt
    obtain ⟨k1_0, k1_1, k1_2, f1_0, f1_1, f1_2⟩ := box3 A1 y8
    have z1 := (A1.ext y8).lt
    obtain ⟨k2_0, k2_1, k2_2, f2_0, f2_1, f2_2⟩ := box3 A2 y8
    have z2 := (A2.ext y8).lt
    have bl := len_intAdd (sgn s1 n1) (sgn s2 n2)
    rw [sgn_natAbs, sgn_natAbs] at bl
    go_wp2_with fail
    refine (rat_lowest _ _ _ _ _ _ _ _ _ _ hr8 (G1.ext hx8) hm1 (by omega) (by omega)).mono ?_
    intro e wz hN
    rw [sgn_num, mkRat_add_same _ _ _ hm1, HV.out, HV2.out] at hN
    obtain ⟨az, cz, az', cz', rfl, hrz, hfz, hrz', hfz', hxz⟩ := id hN
    obtain ⟨k0_0, k0_1, k0_2, f0_0, f0_1, f0_2⟩ := box3 A0 (y8.trans hxz)
    have z0 := (A0.ext (y8.trans hxz)).lt
    obtain ⟨k1_0, k1_1, k1_2, f1_0, f1_1, f1_2⟩ := box3 A1 (y8.trans hxz)
    have z1 := (A1.ext (y8.trans hxz)).lt
    obtain ⟨k2_0, k2_1, k2_2, f2_0, f2_1, f2_2⟩ := box3 A2 (y8.trans hxz)
    have z2 := (A2.ext (y8.trans hxz)).lt
    go_wp2
    exact bodyPost_ret (by simp [results, Tryz.results136, go_sem, *]) rfl (NewRat.touch (hN.base y8) x0 (Touch.three _ (by omega) (by rw [Z0.out]; omega) _ _ _))
  · have hcm : (cmpN m1 m2 == 0) = false := by rw [beq_eq_false_iff_ne]; rcases cmpN_cases m1 m2 with h | h | h <;> omega
    go_wp2
    have bl1 : len (sgn s1 n1 * sgn false m2).natAbs < 1000000000 := by rw [Int.natAbs_mul, sgn_natAbs, sgn_natAbs]; have := len_mul n1 m2; omega
    have bl2 : len (sgn s2 n2 * sgn false m1).natAbs < 1000000000 := by rw [Int.natAbs_mul, sgn_natAbs, sgn_natAbs]; have := len_mul n2 m1; omega
    have bl3 := len_intAdd (sgn s1 n1 * sgn false m2) (sgn s2 n2 * sgn false m1)
    rw [Int.natAbs_mul, Int.natAbs_mul, sgn_natAbs, sgn_natAbs, sgn_natAbs, sgn_natAbs] at bl3
    have bl4 := len_mul n1 m2
    have bl5 := len_mul n2 m1
    have bl6 := len_mul m1 m2
    have tok2 : True := trivial
    have sW : w.heap.size + 3 ≤ w7.heap.size := by have := y7.size; rw [Z0.out] at this; exact this
    go_cut [15] (fun s15 wx => ∃ (bb : Nat) (az : Option Addr) (cz : Nat), s15 = .pointer (some ⟨bb, 0, none⟩) ∧ w.heap.size + 3 ≤ bb ∧ Hid (Arr wx bb 53 [.bool (decide (sgn s1 n1 * sgn false m2 + sgn s2 n2 * sgn false m1 < 0)), .slice az (len (sgn s1 n1 * sgn false m2 + sgn s2 n2 * sgn false m1).natAbs) cz]) ∧ Raw wx az (len (sgn s1 n1 * sgn false m2 + sgn s2 n2 * sgn false m1).natAbs) cz (sgn s1 n1 * sgn false m2 + sgn s2 n2 * sgn false m1).natAbs ∧ Ext w7 wx)
    case first =>
      go_region_held3 (fun w' => w'.cell? ⟨w5.heap.size, 0, none⟩ = some (.bool s1) ∧ w'.cell? ⟨w5.heap.size, 1, none⟩ = some (.slice a1 k1 c1) ∧ w'.cell? ⟨w6.heap.size, 0, none⟩ = some (.bool s2) ∧ w'.cell? ⟨w6.heap.size, 1, none⟩ = some (.slice a2 k2 c2)) (first | exact ⟨p0, p1, q0, q1⟩ | (simp [go_sem, p0, p1, q0, q1, pz, qz]; done) | (simp [go_sem, p0, p1, q0, q1, pz, qz]; omega)) (first
        | (go_at_call 134; have _t := tok2; refine (int_Mul _ _ _ _ _ _ _ _ _ _ _ (H1.ext (by repeat (first | exact Ext.refl _ | exact v10 | exact v9 | exact v8 | refine Ext.trans ?_ hx10 | refine Ext.trans ?_ hx9 | refine Ext.trans ?_ hx8 | refine Ext.drew ?_ | refine Ext.alloc ?_ _ | refine Ext.setCell ?_ (by simp; omega) _))) (G2.ext (by repeat (first | exact Ext.refl _ | exact v10 | exact v9 | exact v8 | refine Ext.trans ?_ hx10 | refine Ext.trans ?_ hx9 | refine Ext.trans ?_ hx8 | refine Ext.drew ?_ | refine Ext.alloc ?_ _ | refine Ext.setCell ?_ (by simp; omega) _))) (by omega) (by omega)).mono ?_; rintro e w8 ⟨a8, c8, rfl, hr8, hf8, hx8⟩; clear tok2 _t; have v8 : Ext w7 w8 := (by repeat (first | exact Ext.refl _ | exact v10 | exact v9 | exact v8 | refine Ext.trans ?_ hx10 | refine Ext.trans ?_ hx9 | refine Ext.trans ?_ hx8 | refine Ext.drew ?_ | refine Ext.alloc ?_ _ | refine Ext.setCell ?_ (by simp; omega) _)); have z8 := v8.size; obtain ⟨p0, p1, p2, p3⟩ := box2 P7 v8; obtain ⟨q0, q1, q2, q3⟩ := box2 Q7 v8; have pz := (P7.ext v8).lt; have qz := (Q7.ext v8).lt; (first | (have RB : Arr w8 w7.heap.size 53 [.bool false, .slice none 0 0] := (Arr.alloc w7.drew 53 [.bool false, .slice none 0 0]).ext hx8; obtain ⟨r0, r1, r2, r3⟩ := box2 RB (Ext.refl _); have rz := RB.lt) | skip))
        | (go_at_call 134; refine (int_Mul _ _ _ _ _ _ _ _ _ _ _ (H2.ext (by repeat (first | exact Ext.refl _ | exact v10 | exact v9 | exact v8 | refine Ext.trans ?_ hx10 | refine Ext.trans ?_ hx9 | refine Ext.trans ?_ hx8 | refine Ext.drew ?_ | refine Ext.alloc ?_ _ | refine Ext.setCell ?_ (by simp; omega) _))) (G1.ext (by repeat (first | exact Ext.refl _ | exact v10 | exact v9 | exact v8 | refine Ext.trans ?_ hx10 | refine Ext.trans ?_ hx9 | refine Ext.trans ?_ hx8 | refine Ext.drew ?_ | refine Ext.alloc ?_ _ | refine Ext.setCell ?_ (by simp; omega) _))) (by omega) (by omega)).mono ?_; rintro e w9 ⟨a9, c9, rfl, hr9, hf9, hx9⟩; have v9 : Ext w7 w9 := (by repeat (first | exact Ext.refl _ | exact v10 | exact v9 | exact v8 | refine Ext.trans ?_ hx10 | refine Ext.trans ?_ hx9 | refine Ext.trans ?_ hx8 | refine Ext.drew ?_ | refine Ext.alloc ?_ _ | refine Ext.setCell ?_ (by simp; omega) _)); have z9 := v9.size; obtain ⟨p0, p1, p2, p3⟩ := box2 P7 v9; obtain ⟨q0, q1, q2, q3⟩ := box2 Q7 v9; have pz := (P7.ext v9).lt; have qz := (Q7.ext v9).lt; (first | (have RB := RB.ext hx9; obtain ⟨r0, r1, r2, r3⟩ := box2 RB (Ext.refl _); have rz := RB.lt) | (have RB := (Arr.alloc w8 53 [.bool false, .slice none 0 0]).ext hx9; obtain ⟨r0, r1, r2, r3⟩ := box2 RB (Ext.refl _); have rz := RB.lt) | skip))
        | (go_at_call 208; refine (int_Add _ _ _ _ _ _ _ _ _ _ _ (hr8.ext (by repeat (first | exact Ext.refl _ | exact v10 | exact v9 | exact v8 | refine Ext.trans ?_ hx10 | refine Ext.trans ?_ hx9 | refine Ext.trans ?_ hx8 | refine Ext.drew ?_ | refine Ext.alloc ?_ _ | refine Ext.setCell ?_ (by simp; omega) _))) (hr9.ext (by repeat (first | exact Ext.refl _ | exact v10 | exact v9 | exact v8 | refine Ext.trans ?_ hx10 | refine Ext.trans ?_ hx9 | refine Ext.trans ?_ hx8 | refine Ext.drew ?_ | refine Ext.alloc ?_ _ | refine Ext.setCell ?_ (by simp; omega) _))) bl1 bl2).mono ?_; rintro e w10 ⟨a10, c10, rfl, hr10, hf10, hx10⟩; have v10 : Ext w7 w10 := (by repeat (first | exact Ext.refl _ | exact v10 | exact v9 | exact v8 | refine Ext.trans ?_ hx10 | refine Ext.trans ?_ hx9 | refine Ext.trans ?_ hx8 | refine Ext.drew ?_ | refine Ext.alloc ?_ _ | refine Ext.setCell ?_ (by simp; omega) _)); have z10 := v10.size; obtain ⟨p0, p1, p2, p3⟩ := box2 P7 v10; obtain ⟨q0, q1, q2, q3⟩ := box2 Q7 v10; have pz := (P7.ext v10).lt; have qz := (Q7.ext v10).lt; (first | (have RB := RB.ext hx10; obtain ⟨r0, r1, r2, r3⟩ := box2 RB (Ext.refl _); have rz := RB.lt) | (have RB := (Arr.alloc w9 53 [.bool false, .slice none 0 0]).ext hx10; obtain ⟨r0, r1, r2, r3⟩ := box2 RB (Ext.refl _); have rz := RB.lt) | skip)))
      all_goals go_wp2_with fail
      all_goals go_meet
      all_goals simp only [sgn_num] at hr10 ⊢
      all_goals first
        | exact ⟨_, a10, c10, rfl, by omega, Arr.alloc _ _ _, hr10.ext ((Ext.refl _).alloc _), (by repeat (first | exact Ext.refl _ | exact v10 | exact v9 | exact v8 | refine Ext.trans ?_ hx10 | refine Ext.trans ?_ hx9 | refine Ext.trans ?_ hx8 | refine Ext.drew ?_ | refine Ext.alloc ?_ _ | refine Ext.setCell ?_ (by simp; omega) _))⟩
        | exact ⟨_, a10, c10, rfl, by omega, (RB.set 0 _).set 1 _, Raw.setCell (Raw.setCell hr10 _ _ (hf10.ne (by first | (simp; done) | (simp; omega) | omega))) _ _ (hf10.ne (by first | (simp; done) | (simp; omega) | omega)), Ext.set2 v10 (by omega) _ _⟩
    case rest =>
      obtain ⟨bb, az, cz, rfl, hb3, hA, hR, hx8⟩ := hcut
      have y8 : Ext W wc := y7.trans hx8
      obtain ⟨k0_0, k0_1, k0_2, f0_0, f0_1, f0_2⟩ := box3 A0 y8
      have z0 := (A0.ext y8).lt
      obtain ⟨k1_0, k1_1, k1_2, f1_0, f1_1, f1_2⟩ := box3 A1 y8
      have z1 := (A1.ext y8).lt
      obtain ⟨k2_0, k2_1, k2_2, f2_0, f2_1, f2_2⟩ := box3 A2 y8
      have z2 := (A2.ext y8).lt
      have A8 := hA.out
      obtain ⟨r0, r1, r2, r3⟩ := box2 A8 (Ext.refl _)
      have nb1 : ¬ (w.heap.size + 1 + 1 = bb) := by omega
      have nb2 : ¬ (bb = w.heap.size + 1 + 1) := by omega
      have nb3 : ¬ (w.heap.size + 2 = bb) := by omega
      have nb4 : ¬ (bb = w.heap.size + 2) := by omega
      have G1 := G1.ext hx8
      have G2 := G2.ext hx8
      go_wp2
      go_region_held3 (fun w' => w'.cell? ⟨bb, 0, none⟩ = some (.bool (decide (sgn s1 n1 * sgn false m2 + sgn s2 n2 * sgn false m1 < 0))) ∧ w'.cell? ⟨bb, 1, none⟩ = some (.slice az (len (sgn s1 n1 * sgn false m2 + sgn s2 n2 * sgn false m1).natAbs) cz)) (first | exact ⟨r0, r1⟩ | (simp [go_sem, r0, r1]; done)) (first
        | (go_at_call 157; refine (nat_Mul _ _ _ _ _ _ _ _ _ (G1.ext (by exact (Ext.refl _).drew)) (G2.ext (by exact (Ext.refl _).drew)) (by omega) (by omega)).mono ?_; rintro e w11 ⟨a11, c11, rfl, hr11, hf11, hx11⟩; obtain ⟨r0, r1, r2, r3⟩ := box2 A8 ((Ext.refl wc).drew.trans hx11); obtain ⟨k0_0, k0_1, k0_2, f0_0, f0_1, f0_2⟩ := box3 A0 ((y8.drew).trans hx11); have z0 := (A0.ext ((y8.drew).trans hx11)).lt; obtain ⟨k1_0, k1_1, k1_2, f1_0, f1_1, f1_2⟩ := box3 A1 ((y8.drew).trans hx11); have z1 := (A1.ext ((y8.drew).trans hx11)).lt; obtain ⟨k2_0, k2_1, k2_2, f2_0, f2_1, f2_2⟩ := box3 A2 ((y8.drew).trans hx11); have z2 := (A2.ext ((y8.drew).trans hx11)).lt)
        | (go_at_call 156; refine (rat_lowest _ _ _ _ _ _ _ _ _ _ ((hR.ext (by exact (Ext.refl _).drew)).ext hx11) hr11 (Nat.mul_pos hm1 hm2) (by omega) (by omega)).mono ?_; intro e wz hN; rw [sgn_num, sgn_false, sgn_false, mkRat_add _ _ _ _ hm1 hm2, HV.out, HV2.out] at hN; obtain ⟨au, cu, au', cu', rfl, hrz, hfz, hrz', hfz', hxz⟩ := id hN; obtain ⟨r0, r1, r2, r3⟩ := box2 A8 (((Ext.refl wc).drew.trans hx11).trans hxz); obtain ⟨k0_0, k0_1, k0_2, f0_0, f0_1, f0_2⟩ := box3 A0 (((y8.drew).trans hx11).trans hxz); have z0 := (A0.ext (((y8.drew).trans hx11).trans hxz)).lt; obtain ⟨k1_0, k1_1, k1_2, f1_0, f1_1, f1_2⟩ := box3 A1 (((y8.drew).trans hx11).trans hxz); have z1 := (A1.ext (((y8.drew).trans hx11).trans hxz)).lt; obtain ⟨k2_0, k2_1, k2_2, f2_0, f2_1, f2_2⟩ := box3 A2 (((y8.drew).trans hx11).trans hxz); have z2 := (A2.ext (((y8.drew).trans hx11).trans hxz)).lt))
      go_wp2
      exact bodyPost_ret (by simp [results, Tryz.results136, go_sem, *]) rfl (NewRat.touch (hN.base ((y8.drew).trans hx11)) x0 (Touch.three _ (by omega) (by rw [Z0.out]; omega) _ _ _))

set_option maxHeartbeats 4000000 in
set_option maxRecDepth 100000 in
theorem rat_Add_ft (w : World) (s : Bool) (a b : Option Addr) (k c j d n m : Nat) (h : Raw w a k c n) (g : Raw w b j d m) (s' : Bool) (a' b' : Option Addr) (k' c' j' d' n' m' : Nat) (h' : Raw w a' k' c' n') (g' : Raw w b' j' d' m') (b1 : len n < 100000000) (b2 : len m < 100000000) (b1' : len n' < 100000000) (b2' : len m' < 100000000) (hn0 : ¬ mkRat (sgn s n) m = 0) (hn0' : ¬ mkRat (sgn s' n') m' = 0) (ha : ¬ (n < 2147483648 ∧ m < 2147483648)) (hb : n' < 2147483648 ∧ m' < 2147483648) :
    Calls Tryz.prog 136 #[.agg #[.bool s, .slice a k c, .slice b j d], .agg #[.bool s', .slice a' k' c', .slice b' j' d']] w (NewRat (mkRat (sgn s n) m + mkRat (sgn s' n') m') w) := by
  have hs1 : ((mkRat (sgn s n) m).num.sign == 0) = false := by rw [beq_eq_false_iff_ne]; exact fun h => hn0 (sign_zero_iff.1 h)
  have hs2 : ((mkRat (sgn s' n') m').num.sign == 0) = false := by rw [beq_eq_false_iff_ne]; exact fun h => hn0' (sign_zero_iff.1 h)
  clear hn0 hn0'
  have HA := Lib.hid ha; have HB := Lib.hid hb; clear ha hb
  go_enter Tryz.func136, Tryz.ntmps136
  go_wp2_with fail
  obtain ⟨W, hW, x0, Z0, A0, A1, A2⟩ := boxes3 w 55 [.bool s, .slice a k c, .slice b j d] 55 [.bool s', .slice a' k' c', .slice b' j' d'] 55 [.bool false, .slice none 0 0, .slice none 0 0]
  rw [← hW]
  clear hW
  obtain ⟨k0_0, k0_1, k0_2, f0_0, f0_1, f0_2⟩ := box3 A0 (Ext.refl _)
  have z0 := (A0.ext (Ext.refl _)).lt
  obtain ⟨k1_0, k1_1, k1_2, f1_0, f1_1, f1_2⟩ := box3 A1 (Ext.refl _)
  have z1 := (A1.ext (Ext.refl _)).lt
  obtain ⟨k2_0, k2_1, k2_2, f2_0, f2_1, f2_2⟩ := box3 A2 (Ext.refl _)
  have z2 := (A2.ext (Ext.refl _)).lt
  refine (rat_Sign _ _ _ _ _ _ _ _ _ _ (h.ext x0) (g.ext x0)).mono ?_
  rintro e w1 ⟨rfl, hx1⟩
  obtain ⟨k0_0, k0_1, k0_2, f0_0, f0_1, f0_2⟩ := box3 A0 hx1
  have z0 := (A0.ext hx1).lt
  obtain ⟨k1_0, k1_1, k1_2, f1_0, f1_1, f1_2⟩ := box3 A1 hx1
  have z1 := (A1.ext hx1).lt
  obtain ⟨k2_0, k2_1, k2_2, f2_0, f2_1, f2_2⟩ := box3 A2 hx1
  have z2 := (A2.ext hx1).lt
  go_wp2_with fail
  refine (rat_Sign _ _ _ _ _ _ _ _ _ _ ((h'.ext x0).ext hx1) ((g'.ext x0).ext hx1)).mono ?_
  rintro e w2 ⟨rfl, hx2⟩
  have y2 : Ext W w2 := hx1.trans hx2
  obtain ⟨k0_0, k0_1, k0_2, f0_0, f0_1, f0_2⟩ := box3 A0 y2
  have z0 := (A0.ext y2).lt
  obtain ⟨k1_0, k1_1, k1_2, f1_0, f1_1, f1_2⟩ := box3 A1 y2
  have z1 := (A1.ext y2).lt
  obtain ⟨k2_0, k2_1, k2_2, f2_0, f2_1, f2_2⟩ := box3 A2 y2
  have z2 := (A2.ext y2).lt
  go_wp2_with fail
  refine (rat_small_no _ _ _ _ _ _ _ _ _ _ ((h.ext x0).ext y2) ((g.ext x0).ext y2) HA.out).mono ?_
  rintro e w3 ⟨rfl, hx3⟩
  have y3 : Ext W w3 := y2.trans hx3
  obtain ⟨k0_0, k0_1, k0_2, f0_0, f0_1, f0_2⟩ := box3 A0 y3
  have z0 := (A0.ext y3).lt
  obtain ⟨k1_0, k1_1, k1_2, f1_0, f1_1, f1_2⟩ := box3 A1 y3
  have z1 := (A1.ext y3).lt
  obtain ⟨k2_0, k2_1, k2_2, f2_0, f2_1, f2_2⟩ := box3 A2 y3
  have z2 := (A2.ext y3).lt
  go_wp2_with fail
  refine (rat_small _ _ _ _ _ _ _ _ _ _ ((h'.ext x0).ext y3) ((g'.ext x0).ext y3) HB.out.1 HB.out.2).mono ?_
  rintro e w4 ⟨x', y', rfl, i1', i2', i3', i4', hxy', hx4⟩
  have HXY' := Lib.hid hxy'; clear hxy'
  have y4 : Ext W w4 := y3.trans hx4
  obtain ⟨k0_0, k0_1, k0_2, f0_0, f0_1, f0_2⟩ := box3 A0 y4
  have z0 := (A0.ext y4).lt
  obtain ⟨k1_0, k1_1, k1_2, f1_0, f1_1, f1_2⟩ := box3 A1 y4
  have z1 := (A1.ext y4).lt
  obtain ⟨k2_0, k2_1, k2_2, f2_0, f2_1, f2_2⟩ := box3 A2 y4
  have z2 := (A2.ext y4).lt
  go_wp2_with fail
  refine (rat_parts _ _ _ _ _ _ _ _ _ _ ((h.ext x0).ext y4) ((g.ext x0).ext y4)).mono ?_
  rintro e w5 ⟨s1, a1, k1, c1, n1, e1, j1, d1, m1, rfl, h1, g1, hm1, hv, l1, l2, hx5⟩
  have HV := Lib.hid hv; clear hv
  have y5 : Ext W w5 := y4.trans hx5
  obtain ⟨k0_0, k0_1, k0_2, f0_0, f0_1, f0_2⟩ := box3 A0 y5
  have z0 := (A0.ext y5).lt
  obtain ⟨k1_0, k1_1, k1_2, f1_0, f1_1, f1_2⟩ := box3 A1 y5
  have z1 := (A1.ext y5).lt
  obtain ⟨k2_0, k2_1, k2_2, f2_0, f2_1, f2_2⟩ := box3 A2 y5
  have z2 := (A2.ext y5).lt
  have P5 := Arr.alloc w5 53 [.bool s1, .slice a1 k1 c1]
  have y5' := y5.alloc (.cells #[.bool s1, .slice a1 k1 c1] 53)
  go_wp2_with fail
  refine (rat_parts _ _ _ _ _ _ _ _ _ _ ((h'.ext x0).ext y5') ((g'.ext x0).ext y5')).mono ?_
  rintro e w6 ⟨s2, a2, k2, c2, n2, e2, j2, d2, m2, rfl, h2, g2, hm2, hv2, l3, l4, hx6⟩
  have HV2 := Lib.hid hv2; clear hv2
  have y6 : Ext W w6 := y5'.trans hx6
  obtain ⟨k0_0, k0_1, k0_2, f0_0, f0_1, f0_2⟩ := box3 A0 y6
  have z0 := (A0.ext y6).lt
  obtain ⟨k1_0, k1_1, k1_2, f1_0, f1_1, f1_2⟩ := box3 A1 y6
  have z1 := (A1.ext y6).lt
  obtain ⟨k2_0, k2_1, k2_2, f2_0, f2_1, f2_2⟩ := box3 A2 y6
  have z2 := (A2.ext y6).lt
  obtain ⟨p0, p1, p2, p3⟩ := box2 P5 hx6
  have pz := (P5.ext hx6).lt
  have yV : Ext w6 (w6.alloc (.cells #[.bool s2, .slice a2 k2 c2] 53)) := (Ext.refl _).alloc _
  have PV := (P5.ext hx6).ext yV
  have QV := Arr.alloc w6 53 [.bool s2, .slice a2 k2 c2]
  have H1 := ((h1.ext ((Ext.refl w5).alloc _)).ext hx6).ext yV
  have G1 := ((g1.ext ((Ext.refl w5).alloc _)).ext hx6).ext yV
  have H2 := h2.ext yV
  have G2 := g2.ext yV
  have yW := y6.trans yV
  go_wp2_with fail
  refine (nat_Compare _ _ _ _ _ _ _ _ _ G1 G2).mono ?_
  rintro e w7 ⟨rfl, hq7⟩
  have y7 : Ext W w7 := yW.trans hq7.ext
  obtain ⟨k0_0, k0_1, k0_2, f0_0, f0_1, f0_2⟩ := box3 A0 y7
  have z0 := (A0.ext y7).lt
  obtain ⟨k1_0, k1_1, k1_2, f1_0, f1_1, f1_2⟩ := box3 A1 y7
  have z1 := (A1.ext y7).lt
  obtain ⟨k2_0, k2_1, k2_2, f2_0, f2_1, f2_2⟩ := box3 A2 y7
  have z2 := (A2.ext y7).lt
  have P7 := PV.ext hq7.ext
  have Q7 := QV.ext hq7.ext
  obtain ⟨p0, p1, p2, p3⟩ := box2 P7 (Ext.refl _)
  obtain ⟨q0, q1, q2, q3⟩ := box2 Q7 (Ext.refl _)
  have pz := P7.lt
  have qz := Q7.lt
  have H1 := H1.ext hq7.ext
  have H2 := H2.ext hq7.ext
  have G1 := G1.ext hq7.ext
  have G2 := G2.ext hq7.ext
  by_cases heq : m1 = m2
  · subst heq
    have hcm : cmpN m1 m1 = 0 := by unfold cmpN; simp
    rw [hcm]; clear hcm
    go_wp2_with fail
    refine (int_Add _ _ _ _ _ _ _ _ _ _ _ H1 H2 (by omega) (by omega)).mono ?_
    rintro e w8 ⟨a8, c8, rfl, hr8, hf8, hx8⟩
    have y8 : Ext W w8 := y7.trans hx8
    obtain ⟨k0_0, k0_1, k0_2, f0_0, f0_1, f0_2⟩ := box3 A0 y8
    have z0 := (A0.ext y8).lt
    obtain ⟨k1_0, k1_1, k1_2, f1_0, f1_1, f1_2⟩ := box3 A1 y8
    have z1 := (A1.ext y8).lt
    obtain ⟨k2_0, k2_1, k2_2, f2_0, f2_1, f2_2⟩ := box3 A2 y8
    have z2 := (A2.ext y8).lt
    have bl := len_intAdd (sgn s1 n1) (sgn s2 n2)
    rw [sgn_natAbs, sgn_natAbs] at bl
    go_wp2_with fail
    refine (rat_lowest _ _ _ _ _ _ _ _ _ _ hr8 (G1.ext hx8) hm1 (by omega) (by omega)).mono ?_
    intro e wz hN
    rw [sgn_num, mkRat_add_same _ _ _ hm1, HV.out, HV2.out] at hN
    obtain ⟨az, cz, az', cz', rfl, hrz, hfz, hrz', hfz', hxz⟩ := id hN
    obtain ⟨k0_0, k0_1, k0_2, f0_0, f0_1, f0_2⟩ := box3 A0 (y8.trans hxz)
    have z0 := (A0.ext (y8.trans hxz)).lt
    obtain ⟨k1_0, k1_1, k1_2, f1_0, f1_1, f1_2⟩ := box3 A1 (y8.trans hxz)
    have z1 := (A1.ext (y8.trans hxz)).lt
    obtain ⟨k2_0, k2_1, k2_2, f2_0, f2_1, f2_2⟩ := box3 A2 (y8.trans hxz)
    have z2 := (A2.ext (y8.trans hxz)).lt
    go_wp2
    exact bodyPost_ret (by simp [results, Tryz.results136, go_sem, *]) rfl (NewRat.touch (hN.base y8) x0 (Touch.three _ (by omega) (by rw [Z0.out]; omega) _ _ _))
  · have hcm : (cmpN m1 m2 == 0) = false := by rw [beq_eq_false_iff_ne]; rcases cmpN_cases m1 m2 with h | h | h <;> omega
    go_wp2
    have bl1 : len (sgn s1 n1 * sgn false m2).natAbs < 1000000000 := by rw [Int.natAbs_mul, sgn_natAbs, sgn_natAbs]; have := len_mul n1 m2; omega
    have bl2 : len (sgn s2 n2 * sgn false m1).natAbs < 1000000000 := by rw [Int.natAbs_mul, sgn_natAbs, sgn_natAbs]; have := len_mul n2 m1; omega
    have bl3 := len_intAdd (sgn s1 n1 * sgn false m2) (sgn s2 n2 * sgn false m1)
    rw [Int.natAbs_mul, Int.natAbs_mul, sgn_natAbs, sgn_natAbs, sgn_natAbs, sgn_natAbs] at bl3
    have bl4 := len_mul n1 m2
    have bl5 := len_mul n2 m1
    have bl6 := len_mul m1 m2
    have tok2 : True := trivial
    have sW : w.heap.size + 3 ≤ w7.heap.size := by have := y7.size; rw [Z0.out] at this; exact this
    go_cut [15] (fun s15 wx => ∃ (bb : Nat) (az : Option Addr) (cz : Nat), s15 = .pointer (some ⟨bb, 0, none⟩) ∧ w.heap.size + 3 ≤ bb ∧ Hid (Arr wx bb 53 [.bool (decide (sgn s1 n1 * sgn false m2 + sgn s2 n2 * sgn false m1 < 0)), .slice az (len (sgn s1 n1 * sgn false m2 + sgn s2 n2 * sgn false m1).natAbs) cz]) ∧ Raw wx az (len (sgn s1 n1 * sgn false m2 + sgn s2 n2 * sgn false m1).natAbs) cz (sgn s1 n1 * sgn false m2 + sgn s2 n2 * sgn false m1).natAbs ∧ Ext w7 wx)
    case first =>
      go_region_held3 (fun w' => w'.cell? ⟨w5.heap.size, 0, none⟩ = some (.bool s1) ∧ w'.cell? ⟨w5.heap.size, 1, none⟩ = some (.slice a1 k1 c1) ∧ w'.cell? ⟨w6.heap.size, 0, none⟩ = some (.bool s2) ∧ w'.cell? ⟨w6.heap.size, 1, none⟩ = some (.slice a2 k2 c2)) (first | exact ⟨p0, p1, q0, q1⟩ | (simp [go_sem, p0, p1, q0, q1, pz, qz]; done) | (simp [go_sem, p0, p1, q0, q1, pz, qz]; omega)) (first
        | (go_at_call 134; have _t := tok2; refine (int_Mul _ _ _ _ _ _ _ _ _ _ _ (H1.ext (by repeat (first | exact Ext.refl _ | exact v10 | exact v9 | exact v8 | refine Ext.trans ?_ hx10 | refine Ext.trans ?_ hx9 | refine Ext.trans ?_ hx8 | refine Ext.drew ?_ | refine Ext.alloc ?_ _ | refine Ext.setCell ?_ (by simp; omega) _))) (G2.ext (by repeat (first | exact Ext.refl _ | exact v10 | exact v9 | exact v8 | refine Ext.trans ?_ hx10 | refine Ext.trans ?_ hx9 | refine Ext.trans ?_ hx8 | refine Ext.drew ?_ | refine Ext.alloc ?_ _ | refine Ext.setCell ?_ (by simp; omega) _))) (by omega) (by omega)).mono ?_; rintro e w8 ⟨a8, c8, rfl, hr8, hf8, hx8⟩; clear tok2 _t; have v8 : Ext w7 w8 := (by repeat (first | exact Ext.refl _ | exact v10 | exact v9 | exact v8 | refine Ext.trans ?_ hx10 | refine Ext.trans ?_ hx9 | refine Ext.trans ?_ hx8 | refine Ext.drew ?_ | refine Ext.alloc ?_ _ | refine Ext.setCell ?_ (by simp; omega) _)); have z8 := v8.size; obtain ⟨p0, p1, p2, p3⟩ := box2 P7 v8; obtain ⟨q0, q1, q2, q3⟩ := box2 Q7 v8; have pz := (P7.ext v8).lt; have qz := (Q7.ext v8).lt; (first | (have RB : Arr w8 w7.heap.size 53 [.bool false, .slice none 0 0] := (Arr.alloc w7.drew 53 [.bool false, .slice none 0 0]).ext hx8; obtain ⟨r0, r1, r2, r3⟩ := box2 RB (Ext.refl _); have rz := RB.lt) | skip))
        | (go_at_call 134; refine (int_Mul _ _ _ _ _ _ _ _ _ _ _ (H2.ext (by repeat (first | exact Ext.refl _ | exact v10 | exact v9 | exact v8 | refine Ext.trans ?_ hx10 | refine Ext.trans ?_ hx9 | refine Ext.trans ?_ hx8 | refine Ext.drew ?_ | refine Ext.alloc ?_ _ | refine Ext.setCell ?_ (by simp; omega) _))) (G1.ext (by repeat (first | exact Ext.refl _ | exact v10 | exact v9 | exact v8 | refine Ext.trans ?_ hx10 | refine Ext.trans ?_ hx9 | refine Ext.trans ?_ hx8 | refine Ext.drew ?_ | refine Ext.alloc ?_ _ | refine Ext.setCell ?_ (by simp; omega) _))) (by omega) (by omega)).mono ?_; rintro e w9 ⟨a9, c9, rfl, hr9, hf9, hx9⟩; have v9 : Ext w7 w9 := (by repeat (first | exact Ext.refl _ | exact v10 | exact v9 | exact v8 | refine Ext.trans ?_ hx10 | refine Ext.trans ?_ hx9 | refine Ext.trans ?_ hx8 | refine Ext.drew ?_ | refine Ext.alloc ?_ _ | refine Ext.setCell ?_ (by simp; omega) _)); have z9 := v9.size; obtain ⟨p0, p1, p2, p3⟩ := box2 P7 v9; obtain ⟨q0, q1, q2, q3⟩ := box2 Q7 v9; have pz := (P7.ext v9).lt; have qz := (Q7.ext v9).lt; (first | (have RB := RB.ext hx9; obtain ⟨r0, r1, r2, r3⟩ := box2 RB (Ext.refl _); have rz := RB.lt) | (have RB := (Arr.alloc w8 53 [.bool false, .slice none 0 0]).ext hx9; obtain ⟨r0, r1, r2, r3⟩ := box2 RB (Ext.refl _); have rz := RB.lt) | skip))
        | (go_at_call 208; refine (int_Add _ _ _ _ _ _ _ _ _ _ _ (hr8.ext (by repeat (first | exact Ext.refl _ | exact v10 | exact v9 | exact v8 | refine Ext.trans ?_ hx10 | refine Ext.trans ?_ hx9 | refine Ext.trans ?_ hx8 | refine Ext.drew ?_ | refine Ext.alloc ?_ _ | refine Ext.setCell ?_ (by simp; omega) _))) (hr9.ext (by repeat (first | exact Ext.refl _ | exact v10 | exact v9 | exact v8 | refine Ext.trans ?_ hx10 | refine Ext.trans ?_ hx9 | refine Ext.trans ?_ hx8 | refine Ext.drew ?_ | refine Ext.alloc ?_ _ | refine Ext.setCell ?_ (by simp; omega) _))) bl1 bl2).mono ?_; rintro e w10 ⟨a10, c10, rfl, hr10, hf10, hx10⟩; have v10 : Ext w7 w10 := (by repeat (first | exact Ext.refl _ | exact v10 | exact v9 | exact v8 | refine Ext.trans ?_ hx10 | refine Ext.trans ?_ hx9 | refine Ext.trans ?_ hx8 | refine Ext.drew ?_ | refine Ext.alloc ?_ _ | refine Ext.setCell ?_ (by simp; omega) _)); have z10 := v10.size; obtain ⟨p0, p1, p2, p3⟩ := box2 P7 v10; obtain ⟨q0, q1, q2, q3⟩ := box2 Q7 v10; have pz := (P7.ext v10).lt; have qz := (Q7.ext v10).lt; (first | (have RB := RB.ext hx10; obtain ⟨r0, r1, r2, r3⟩ := box2 RB (Ext.refl _); have rz := RB.lt) | (have RB := (Arr.alloc w9 53 [.bool false, .slice none 0 0]).ext hx10; obtain ⟨r0, r1, r2, r3⟩ := box2 RB (Ext.refl _); have rz := RB.lt) | skip)))
      all_goals go_wp2_with fail
      all_goals go_meet
      all_goals simp only [sgn_num] at hr10 ⊢
      all_goals first
        | exact ⟨_, a10, c10, rfl, by omega, Arr.alloc _ _ _, hr10.ext ((Ext.refl _).alloc _), (by repeat (first | exact Ext.refl _ | exact v10 | exact v9 | exact v8 | refine Ext.trans ?_ hx10 | refine Ext.trans ?_ hx9 | refine Ext.trans ?_ hx8 | refine Ext.drew ?_ | refine Ext.alloc ?_ _ | refine Ext.setCell ?_ (by simp; omega) _))⟩
        | exact ⟨_, a10, c10, rfl, by omega, (RB.set 0 _).set 1 _, Raw.setCell (Raw.setCell hr10 _ _ (hf10.ne (by first | (simp; done) | (simp; omega) | omega))) _ _ (hf10.ne (by first | (simp; done) | (simp; omega) | omega)), Ext.set2 v10 (by omega) _ _⟩
    case rest =>
      obtain ⟨bb, az, cz, rfl, hb3, hA, hR, hx8⟩ := hcut
      have y8 : Ext W wc := y7.trans hx8
      obtain ⟨k0_0, k0_1, k0_2, f0_0, f0_1, f0_2⟩ := box3 A0 y8
      have z0 := (A0.ext y8).lt
      obtain ⟨k1_0, k1_1, k1_2, f1_0, f1_1, f1_2⟩ := box3 A1 y8
      have z1 := (A1.ext y8).lt
      obtain ⟨k2_0, k2_1, k2_2, f2_0, f2_1, f2_2⟩ := box3 A2 y8
      have z2 := (A2.ext y8).lt
      have A8 := hA.out
      obtain ⟨r0, r1, r2, r3⟩ := box2 A8 (Ext.refl _)
      have nb1 : ¬ (w.heap.size + 1 + 1 = bb) := by omega
      have nb2 : ¬ (bb = w.heap.size + 1 + 1) := by omega
      have nb3 : ¬ (w.heap.size + 2 = bb) := by omega
      have nb4 : ¬ (bb = w.heap.size + 2) := by omega
      have G1 := G1.ext hx8
      have G2 := G2.ext hx8
      go_wp2
      go_region_held3 (fun w' => w'.cell? ⟨bb, 0, none⟩ = some (.bool (decide (sgn s1 n1 * sgn false m2 + sgn s2 n2 * sgn false m1 < 0))) ∧ w'.cell? ⟨bb, 1, none⟩ = some (.slice az (len (sgn s1 n1 * sgn false m2 + sgn s2 n2 * sgn false m1).natAbs) cz)) (first | exact ⟨r0, r1⟩ | (simp [go_sem, r0, r1]; done)) (first
        | (go_at_call 157; refine (nat_Mul _ _ _ _ _ _ _ _ _ (G1.ext (by exact (Ext.refl _).drew)) (G2.ext (by exact (Ext.refl _).drew)) (by omega) (by omega)).mono ?_; rintro e w11 ⟨a11, c11, rfl, hr11, hf11, hx11⟩; obtain ⟨r0, r1, r2, r3⟩ := box2 A8 ((Ext.refl wc).drew.trans hx11); obtain ⟨k0_0, k0_1, k0_2, f0_0, f0_1, f0_2⟩ := box3 A0 ((y8.drew).trans hx11); have z0 := (A0.ext ((y8.drew).trans hx11)).lt; obtain ⟨k1_0, k1_1, k1_2, f1_0, f1_1, f1_2⟩ := box3 A1 ((y8.drew).trans hx11); have z1 := (A1.ext ((y8.drew).trans hx11)).lt; obtain ⟨k2_0, k2_1, k2_2, f2_0, f2_1, f2_2⟩ := box3 A2 ((y8.drew).trans hx11); have z2 := (A2.ext ((y8.drew).trans hx11)).lt)
        | (go_at_call 156; refine (rat_lowest _ _ _ _ _ _ _ _ _ _ ((hR.ext (by exact (Ext.refl _).drew)).ext hx11) hr11 (Nat.mul_pos hm1 hm2) (by omega) (by omega)).mono ?_; intro e wz hN; rw [sgn_num, sgn_false, sgn_false, mkRat_add _ _ _ _ hm1 hm2, HV.out, HV2.out] at hN; obtain ⟨au, cu, au', cu', rfl, hrz, hfz, hrz', hfz', hxz⟩ := id hN; obtain ⟨r0, r1, r2, r3⟩ := box2 A8 (((Ext.refl wc).drew.trans hx11).trans hxz); obtain ⟨k0_0, k0_1, k0_2, f0_0, f0_1, f0_2⟩ := box3 A0 (((y8.drew).trans hx11).trans hxz); have z0 := (A0.ext (((y8.drew).trans hx11).trans hxz)).lt; obtain ⟨k1_0, k1_1, k1_2, f1_0, f1_1, f1_2⟩ := box3 A1 (((y8.drew).trans hx11).trans hxz); have z1 := (A1.ext (((y8.drew).trans hx11).trans hxz)).lt; obtain ⟨k2_0, k2_1, k2_2, f2_0, f2_1, f2_2⟩ := box3 A2 (((y8.drew).trans hx11).trans hxz); have z2 := (A2.ext (((y8.drew).trans hx11).trans hxz)).lt))
      go_wp2
      exact bodyPost_ret (by simp [results, Tryz.results136, go_sem, *]) rfl (NewRat.touch (hN.base ((y8.drew).trans hx11)) x0 (Touch.three _ (by omega) (by rw [Z0.out]; omega) _ _ _))

set_option maxHeartbeats 4000000 in
set_option maxRecDepth 100000 in
theorem rat_Add_ff (w : World) (s : Bool) (a b : Option Addr) (k c j d n m : Nat) (h : Raw w a k c n) (g : Raw w b j d m) (s' : Bool) (a' b' : Option Addr) (k' c' j' d' n' m' : Nat) (h' : Raw w a' k' c' n') (g' : Raw w b' j' d' m') (b1 : len n < 100000000) (b2 : len m < 100000000) (b1' : len n' < 100000000) (b2' : len m' < 100000000) (hn0 : ¬ mkRat (sgn s n) m = 0) (hn0' : ¬ mkRat (sgn s' n') m' = 0) (ha : ¬ (n < 2147483648 ∧ m < 2147483648)) (hb : ¬ (n' < 2147483648 ∧ m' < 2147483648)) :
    Calls Tryz.prog 136 #[.agg #[.bool s, .slice a k c, .slice b j d], .agg #[.bool s', .slice a' k' c', .slice b' j' d']] w (NewRat (mkRat (sgn s n) m + mkRat (sgn s' n') m') w) := by
  have hs1 : ((mkRat (sgn s n) m).num.sign == 0) = false := by rw [beq_eq_false_iff_ne]; exact fun h => hn0 (sign_zero_iff.1 h)
  have hs2 : ((mkRat (sgn s' n') m').num.sign == 0) = false := by rw [beq_eq_false_iff_ne]; exact fun h => hn0' (sign_zero_iff.1 h)
  clear hn0 hn0'
  have HA := Lib.hid ha; have HB := Lib.hid hb; clear ha hb
  go_enter Tryz.func136, Tryz.ntmps136
  go_wp2_with fail
  obtain ⟨W, hW, x0, Z0, A0, A1, A2⟩ := boxes3 w 55 [.bool s, .slice a k c, .slice b j d] 55 [.bool s', .slice a' k' c', .slice b' j' d'] 55 [.bool false, .slice none 0 0, .slice none 0 0]
  rw [← hW]
  clear hW
  obtain ⟨k0_0, k0_1, k0_2, f0_0, f0_1, f0_2⟩ := box3 A0 (Ext.refl _)
  have z0 := (A0.ext (Ext.refl _)).lt
  obtain ⟨k1_0, k1_1, k1_2, f1_0, f1_1, f1_2⟩ := box3 A1 (Ext.refl _)
  have z1 := (A1.ext (Ext.refl _)).lt
  obtain ⟨k2_0, k2_1, k2_2, f2_0, f2_1, f2_2⟩ := box3 A2 (Ext.refl _)
  have z2 := (A2.ext (Ext.refl _)).lt
  refine (rat_Sign _ _ _ _ _ _ _ _ _ _ (h.ext x0) (g.ext x0)).mono ?_
  rintro e w1 ⟨rfl, hx1⟩
  obtain ⟨k0_0, k0_1, k0_2, f0_0, f0_1, f0_2⟩ := box3 A0 hx1
  have z0 := (A0.ext hx1).lt
  obtain ⟨k1_0, k1_1, k1_2, f1_0, f1_1, f1_2⟩ := box3 A1 hx1
  have z1 := (A1.ext hx1).lt
  obtain ⟨k2_0, k2_1, k2_2, f2_0, f2_1, f2_2⟩ := box3 A2 hx1
  have z2 := (A2.ext hx1).lt
  go_wp2_with fail
  refine (rat_Sign _ _ _ _ _ _ _ _ _ _ ((h'.ext x0).ext hx1) ((g'.ext x0).ext hx1)).mono ?_
  rintro e w2 ⟨rfl, hx2⟩
  have y2 : Ext W w2 := hx1.trans hx2
  obtain ⟨k0_0, k0_1, k0_2, f0_0, f0_1, f0_2⟩ := box3 A0 y2
  have z0 := (A0.ext y2).lt
  obtain ⟨k1_0, k1_1, k1_2, f1_0, f1_1, f1_2⟩ := box3 A1 y2
  have z1 := (A1.ext y2).lt
  obtain ⟨k2_0, k2_1, k2_2, f2_0, f2_1, f2_2⟩ := box3 A2 y2
  have z2 := (A2.ext y2).lt
  go_wp2_with fail
  refine (rat_small_no _ _ _ _ _ _ _ _ _ _ ((h.ext x0).ext y2) ((g.ext x0).ext y2) HA.out).mono ?_
  rintro e w3 ⟨rfl, hx3⟩
  have y3 : Ext W w3 := y2.trans hx3
  obtain ⟨k0_0, k0_1, k0_2, f0_0, f0_1, f0_2⟩ := box3 A0 y3
  have z0 := (A0.ext y3).lt
  obtain ⟨k1_0, k1_1, k1_2, f1_0, f1_1, f1_2⟩ := box3 A1 y3
  have z1 := (A1.ext y3).lt
  obtain ⟨k2_0, k2_1, k2_2, f2_0, f2_1, f2_2⟩ := box3 A2 y3
  have z2 := (A2.ext y3).lt
  go_wp2_with fail
  refine (rat_small_no _ _ _ _ _ _ _ _ _ _ ((h'.ext x0).ext y3) ((g'.ext x0).ext y3) HB.out).mono ?_
  rintro e w4 ⟨rfl, hx4⟩
  have y4 : Ext W w4 := y3.trans hx4
  obtain ⟨k0_0, k0_1, k0_2, f0_0, f0_1, f0_2⟩ := box3 A0 y4
  have z0 := (A0.ext y4).lt
  obtain ⟨k1_0, k1_1, k1_2, f1_0, f1_1, f1_2⟩ := box3 A1 y4
  have z1 := (A1.ext y4).lt
  obtain ⟨k2_0, k2_1, k2_2, f2_0, f2_1, f2_2⟩ := box3 A2 y4
  have z2 := (A2.ext y4).lt
  go_wp2_with fail
  refine (rat_parts _ _ _ _ _ _ _ _ _ _ ((h.ext x0).ext y4) ((g.ext x0).ext y4)).mono ?_
  rintro e w5 ⟨s1, a1, k1, c1, n1, e1, j1, d1, m1, rfl, h1, g1, hm1, hv, l1, l2, hx5⟩
  have HV := Lib.hid hv; clear hv
  have y5 : Ext W w5 := y4.trans hx5
  obtain ⟨k0_0, k0_1, k0_2, f0_0, f0_1, f0_2⟩ := box3 A0 y5
  have z0 := (A0.ext y5).lt
  obtain ⟨k1_0, k1_1, k1_2, f1_0, f1_1, f1_2⟩ := box3 A1 y5
  have z1 := (A1.ext y5).lt
  obtain ⟨k2_0, k2_1, k2_2, f2_0, f2_1, f2_2⟩ := box3 A2 y5
  have z2 := (A2.ext y5).lt
  have P5 := Arr.alloc w5 53 [.bool s1, .slice a1 k1 c1]
  have y5' := y5.alloc (.cells #[.bool s1, .slice a1 k1 c1] 53)
  go_wp2_with fail
  refine (rat_parts _ _ _ _ _ _ _ _ _ _ ((h'.ext x0).ext y5') ((g'.ext x0).ext y5')).mono ?_
  rintro e w6 ⟨s2, a2, k2, c2, n2, e2, j2, d2, m2, rfl, h2, g2, hm2, hv2, l3, l4, hx6⟩
  have HV2 := Lib.hid hv2; clear hv2
  have y6 : Ext W w6 := y5'.trans hx6
  obtain ⟨k0_0, k0_1, k0_2, f0_0, f0_1, f0_2⟩ := box3 A0 y6
  have z0 := (A0.ext y6).lt
  obtain ⟨k1_0, k1_1, k1_2, f1_0, f1_1, f1_2⟩ := box3 A1 y6
  have z1 := (A1.ext y6).lt
  obtain ⟨k2_0, k2_1, k2_2, f2_0, f2_1, f2_2⟩ := box3 A2 y6
  have z2 := (A2.ext y6).lt
  obtain ⟨p0, p1, p2, p3⟩ := box2 P5 hx6
  have pz := (P5.ext hx6).lt
  have yV : Ext w6 (w6.alloc (.cells #[.bool s2, .slice a2 k2 c2] 53)) := (Ext.refl _).alloc _
  have PV := (P5.ext hx6).ext yV
  have QV := Arr.alloc w6 53 [.bool s2, .slice a2 k2 c2]
  have H1 := ((h1.ext ((Ext.refl w5).alloc _)).ext hx6).ext yV
  have G1 := ((g1.ext ((Ext.refl w5).alloc _)).ext hx6).ext yV
  have H2 := h2.ext yV
  have G2 := g2.ext yV
  have yW := y6.trans yV
  go_wp2_with fail
  refine (nat_Compare _ _ _ _ _ _ _ _ _ G1 G2).mono ?_
  rintro e w7 ⟨rfl, hq7⟩
  have y7 : Ext W w7 := yW.trans hq7.ext
  obtain ⟨k0_0, k0_1, k0_2, f0_0, f0_1, f0_2⟩ := box3 A0 y7
  have z0 := (A0.ext y7).lt
  obtain ⟨k1_0, k1_1, k1_2, f1_0, f1_1, f1_2⟩ := box3 A1 y7
  have z1 := (A1.ext y7).lt
  obtain ⟨k2_0, k2_1, k2_2, f2_0, f2_1, f2_2⟩ := box3 A2 y7
  have z2 := (A2.ext y7).lt
  have P7 := PV.ext hq7.ext
  have Q7 := QV.ext hq7.ext
  obtain ⟨p0, p1, p2, p3⟩ := box2 P7 (Ext.refl _)
  obtain ⟨q0, q1, q2, q3⟩ := box2 Q7 (Ext.refl _)
  have pz := P7.lt
  have qz := Q7.lt
  have H1 := H1.ext hq7.ext
  have H2 := H2.ext hq7.ext
  have G1 := G1.ext hq7.ext
  have G2 := G2.ext hq7.ext
  by_cases heq : m1 = m2
  · subst heq
    have hcm : cmpN m1 m1 = 0 := by unfold cmpN; simp
    rw [hcm]; clear hcm
    go_wp2_with fail
    refine (int_Add _ _ _ _ _ _ _ _ _ _ _ H1 H2 (by omega) (by omega)).mono ?_
    rintro e w8 ⟨a8, c8, rfl, hr8, hf8, hx8⟩
    have y8 : Ext W w8 := y7.trans hx8
    obtain ⟨k0_0, k0_1, k0_2, f0_0, f0_1, f0_2⟩ := box3 A0 y8
    have z0 := (A0.ext y8).lt
    obtain ⟨k1_0, k1_1, k1_2, f1_0, f1_1, f1_2⟩ := box3 A1 y8
    have z1 := (A1.ext y8).lt
    obtain ⟨k2_0, k2_1, k2_2, f2_0, f2_1, f2_2⟩ := box3 A2 y8
    have z2 := (A2.ext y8).lt
    have bl := len_intAdd (sgn s1 n1) (sgn s2 n2)
    rw [sgn_natAbs, sgn_natAbs] at bl
    go_wp2_with fail
    refine (rat_lowest _ _ _ _ _ _ _ _ _ _ hr8 (G1.ext hx8) hm1 (by omega) (by omega)).mono ?_
    intro e wz hN
    rw [sgn_num, mkRat_add_same _ _ _ hm1, HV.out, HV2.out] at hN
    obtain ⟨az, cz, az', cz', rfl, hrz, hfz, hrz', hfz', hxz⟩ := id hN
    obtain ⟨k0_0, k0_1, k0_2, f0_0, f0_1, f0_2⟩ := box3 A0 (y8.trans hxz)
    have z0 := (A0.ext (y8.trans hxz)).lt
    obtain ⟨k1_0, k1_1, k1_2, f1_0, f1_1, f1_2⟩ := box3 A1 (y8.trans hxz)
    have z1 := (A1.ext (y8.trans hxz)).lt
    obtain ⟨k2_0, k2_1, k2_2, f2_0, f2_1, f2_2⟩ := box3 A2 (y8.trans hxz)
    have z2 := (A2.ext (y8.trans hxz)).lt
    go_wp2
    exact bodyPost_ret (by simp [results, Tryz.results136, go_sem, *]) rfl (NewRat.touch (hN.base y8) x0 (Touch.three _ (by omega) (by rw [Z0.out]; omega) _ _ _))
  · have hcm : (cmpN m1 m2 == 0) = false := by rw [beq_eq_false_iff_ne]; rcases cmpN_cases m1 m2 with h | h | h <;> omega
    go_wp2
    have bl1 : len (sgn s1 n1 * sgn false m2).natAbs < 1000000000 := by rw [Int.natAbs_mul, sgn_natAbs, sgn_natAbs]; have := len_mul n1 m2; omega
    have bl2 : len (sgn s2 n2 * sgn false m1).natAbs < 1000000000 := by rw [Int.natAbs_mul, sgn_natAbs, sgn_natAbs]; have := len_mul n2 m1; omega
    have bl3 := len_intAdd (sgn s1 n1 * sgn false m2) (sgn s2 n2 * sgn false m1)
    rw [Int.natAbs_mul, Int.natAbs_mul, sgn_natAbs, sgn_natAbs, sgn_natAbs, sgn_natAbs] at bl3
    have bl4 := len_mul n1 m2
    have bl5 := len_mul n2 m1
    have bl6 := len_mul m1 m2
    have tok2 : True := trivial
    have sW : w.heap.size + 3 ≤ w7.heap.size := by have := y7.size; rw [Z0.out] at this; exact this
    go_cut [15] (fun s15 wx => ∃ (bb : Nat) (az : Option Addr) (cz : Nat), s15 = .pointer (some ⟨bb, 0, none⟩) ∧ w.heap.size + 3 ≤ bb ∧ Hid (Arr wx bb 53 [.bool (decide (sgn s1 n1 * sgn false m2 + sgn s2 n2 * sgn false m1 < 0)), .slice az (len (sgn s1 n1 * sgn false m2 + sgn s2 n2 * sgn false m1).natAbs) cz]) ∧ Raw wx az (len (sgn s1 n1 * sgn false m2 + sgn s2 n2 * sgn false m1).natAbs) cz (sgn s1 n1 * sgn false m2 + sgn s2 n2 * sgn false m1).natAbs ∧ Ext w7 wx)
    case first =>
      go_region_held3 (fun w' => w'.cell? ⟨w5.heap.size, 0, none⟩ = some (.bool s1) ∧ w'.cell? ⟨w5.heap.size, 1, none⟩ = some (.slice a1 k1 c1) ∧ w'.cell? ⟨w6.heap.size, 0, none⟩ = some (.bool s2) ∧ w'.cell? ⟨w6.heap.size, 1, none⟩ = some (.slice a2 k2 c2)) (first | exact ⟨p0, p1, q0, q1⟩ | (simp [go_sem, p0, p1, q0, q1, pz, qz]; done) | (simp [go_sem, p0, p1, q0, q1, pz, qz]; omega)) (first
        | (go_at_call 134; have _t := tok2; refine (int_Mul _ _ _ _ _ _ _ _ _ _ _ (H1.ext (by repeat (first | exact Ext.refl _ | exact v10 | exact v9 | exact v8 | refine Ext.trans ?_ hx10 | refine Ext.trans ?_ hx9 | refine Ext.trans ?_ hx8 | refine Ext.drew ?_ | refine Ext.alloc ?_ _ | refine Ext.setCell ?_ (by simp; omega) _))) (G2.ext (by repeat (first | exact Ext.refl _ | exact v10 | exact v9 | exact v8 | refine Ext.trans ?_ hx10 | refine Ext.trans ?_ hx9 | refine Ext.trans ?_ hx8 | refine Ext.drew ?_ | refine Ext.alloc ?_ _ | refine Ext.setCell ?_ (by simp; omega) _))) (by omega) (by omega)).mono ?_; rintro e w8 ⟨a8, c8, rfl, hr8, hf8, hx8⟩; clear tok2 _t; have v8 : Ext w7 w8 := (by repeat (first | exact Ext.refl _ | exact v10 | exact v9 | exact v8 | refine Ext.trans ?_ hx10 | refine Ext.trans ?_ hx9 | refine Ext.trans ?_ hx8 | refine Ext.drew ?_ | refine Ext.alloc ?_ _ | refine Ext.setCell ?_ (by simp; omega) _)); have z8 := v8.size; obtain ⟨p0, p1, p2, p3⟩ := box2 P7 v8; obtain ⟨q0, q1, q2, q3⟩ := box2 Q7 v8; have pz := (P7.ext v8).lt; have qz := (Q7.ext v8).lt; (first | (have RB : Arr w8 w7.heap.size 53 [.bool false, .slice none 0 0] := (Arr.alloc w7.drew 53 [.bool false, .slice none 0 0]).ext hx8; obtain ⟨r0, r1, r2, r3⟩ := box2 RB (Ext.refl _); have rz := RB.lt) | skip))
        | (go_at_call 134; refine (int_Mul _ _ _ _ _ _ _ _ _ _ _ (H2.ext (by repeat (first | exact Ext.refl _ | exact v10 | exact v9 | exact v8 | refine Ext.trans ?_ hx10 | refine Ext.trans ?_ hx9 | refine Ext.trans ?_ hx8 | refine Ext.drew ?_ | refine Ext.alloc ?_ _ | refine Ext.setCell ?_ (by simp; omega) _))) (G1.ext (by repeat (first | exact Ext.refl _ | exact v10 | exact v9 | exact v8 | refine Ext.trans ?_ hx10 | refine Ext.trans ?_ hx9 | refine Ext.trans ?_ hx8 | refine Ext.drew ?_ | refine Ext.alloc ?_ _ | refine Ext.setCell ?_ (by simp; omega) _))) (by omega) (by omega)).mono ?_; rintro e w9 ⟨a9, c9, rfl, hr9, hf9, hx9⟩; have v9 : Ext w7 w9 := (by repeat (first | exact Ext.refl _ | exact v10 | exact v9 | exact v8 | refine Ext.trans ?_ hx10 | refine Ext.trans ?_ hx9 | refine Ext.trans ?_ hx8 | refine Ext.drew ?_ | refine Ext.alloc ?_ _ | refine Ext.setCell ?_ (by simp; omega) _)); have z9 := v9.size; obtain ⟨p0, p1, p2, p3⟩ := box2 P7 v9; obtain ⟨q0, q1, q2, q3⟩ := box2 Q7 v9; have pz := (P7.ext v9).lt; have qz := (Q7.ext v9).lt; (first | (have RB := RB.ext hx9; obtain ⟨r0, r1, r2, r3⟩ := box2 RB (Ext.refl _); have rz := RB.lt) | (have RB := (Arr.alloc w8 53 [.bool false, .slice none 0 0]).ext hx9; obtain ⟨r0, r1, r2, r3⟩ := box2 RB (Ext.refl _); have rz := RB.lt) | skip))
        | (go_at_call 208; refine (int_Add _ _ _ _ _ _ _ _ _ _ _ (hr8.ext (by repeat (first | exact Ext.refl _ | exact v10 | exact v9 | exact v8 | refine Ext.trans ?_ hx10 | refine Ext.trans ?_ hx9 | refine Ext.trans ?_ hx8 | refine Ext.drew ?_ | refine Ext.alloc ?_ _ | refine Ext.setCell ?_ (by simp; omega) _))) (hr9.ext (by repeat (first | exact Ext.refl _ | exact v10 | exact v9 | exact v8 | refine Ext.trans ?_ hx10 | refine Ext.trans ?_ hx9 | refine Ext.trans ?_ hx8 | refine Ext.drew ?_ | refine Ext.alloc ?_ _ | refine Ext.setCell ?_ (by simp; omega) _))) bl1 bl2).mono ?_; rintro e w10 ⟨a10, c10, rfl, hr10, hf10, hx10⟩; have v10 : Ext w7 w10 := (by repeat (first | exact Ext.refl _ | exact v10 | exact v9 | exact v8 | refine Ext.trans ?_ hx10 | refine Ext.trans ?_ hx9 | refine Ext.trans ?_ hx8 | refine Ext.drew ?_ | refine Ext.alloc ?_ _ | refine Ext.setCell ?_ (by simp; omega) _)); have z10 := v10.size; obtain ⟨p0, p1, p2, p3⟩ := box2 P7 v10; obtain ⟨q0, q1, q2, q3⟩ := box2 Q7 v10; have pz := (P7.ext v10).lt; have qz := (Q7.ext v10).lt; (first | (have RB := RB.ext hx10; obtain ⟨r0, r1, r2, r3⟩ := box2 RB (Ext.refl _); have rz := RB.lt) | (have RB := (Arr.alloc w9 53 [.bool false, .slice none 0 0]).ext hx10; obtain ⟨r0, r1, r2, r3⟩ := box2 RB (Ext.refl _); have rz := RB.lt) | skip)))
      all_goals go_wp2_with fail
      all_goals go_meet
      all_goals simp only [sgn_num] at hr10 ⊢
      all_goals first
        | exact ⟨_, a10, c10, rfl, by omega, Arr.alloc _ _ _, hr10.ext ((Ext.refl _).alloc _), (by repeat (first | exact Ext.refl _ | exact v10 | exact v9 | exact v8 | refine Ext.trans ?_ hx10 | refine Ext.trans ?_ hx9 | refine Ext.trans ?_ hx8 | refine Ext.drew ?_ | refine Ext.alloc ?_ _ | refine Ext.setCell ?_ (by simp; omega) _))⟩
        | exact ⟨_, a10, c10, rfl, by omega, (RB.set 0 _).set 1 _, Raw.setCell (Raw.setCell hr10 _ _ (hf10.ne (by first | (simp; done) | (simp; omega) | omega))) _ _ (hf10.ne (by first | (simp; done) | (simp; omega) | omega)), Ext.set2 v10 (by omega) _ _⟩
    case rest =>
      obtain ⟨bb, az, cz, rfl, hb3, hA, hR, hx8⟩ := hcut
      have y8 : Ext W wc := y7.trans hx8
      obtain ⟨k0_0, k0_1, k0_2, f0_0, f0_1, f0_2⟩ := box3 A0 y8
      have z0 := (A0.ext y8).lt
      obtain ⟨k1_0, k1_1, k1_2, f1_0, f1_1, f1_2⟩ := box3 A1 y8
      have z1 := (A1.ext y8).lt
      obtain ⟨k2_0, k2_1, k2_2, f2_0, f2_1, f2_2⟩ := box3 A2 y8
      have z2 := (A2.ext y8).lt
      have A8 := hA.out
      obtain ⟨r0, r1, r2, r3⟩ := box2 A8 (Ext.refl _)
      have nb1 : ¬ (w.heap.size + 1 + 1 = bb) := by omega
      have nb2 : ¬ (bb = w.heap.size + 1 + 1) := by omega
      have nb3 : ¬ (w.heap.size + 2 = bb) := by omega
      have nb4 : ¬ (bb = w.heap.size + 2) := by omega
      have G1 := G1.ext hx8
      have G2 := G2.ext hx8
      go_wp2
      go_region_held3 (fun w' => w'.cell? ⟨bb, 0, none⟩ = some (.bool (decide (sgn s1 n1 * sgn false m2 + sgn s2 n2 * sgn false m1 < 0))) ∧ w'.cell? ⟨bb, 1, none⟩ = some (.slice az (len (sgn s1 n1 * sgn false m2 + sgn s2 n2 * sgn false m1).natAbs) cz)) (first | exact ⟨r0, r1⟩ | (simp [go_sem, r0, r1]; done)) (first
        | (go_at_call 157; refine (nat_Mul _ _ _ _ _ _ _ _ _ (G1.ext (by exact (Ext.refl _).drew)) (G2.ext (by exact (Ext.refl _).drew)) (by omega) (by omega)).mono ?_; rintro e w11 ⟨a11, c11, rfl, hr11, hf11, hx11⟩; obtain ⟨r0, r1, r2, r3⟩ := box2 A8 ((Ext.refl wc).drew.trans hx11); obtain ⟨k0_0, k0_1, k0_2, f0_0, f0_1, f0_2⟩ := box3 A0 ((y8.drew).trans hx11); have z0 := (A0.ext ((y8.drew).trans hx11)).lt; obtain ⟨k1_0, k1_1, k1_2, f1_0, f1_1, f1_2⟩ := box3 A1 ((y8.drew).trans hx11); have z1 := (A1.ext ((y8.drew).trans hx11)).lt; obtain ⟨k2_0, k2_1, k2_2, f2_0, f2_1, f2_2⟩ := box3 A2 ((y8.drew).trans hx11); have z2 := (A2.ext ((y8.drew).trans hx11)).lt)
        | (go_at_call 156; refine (rat_lowest _ _ _ _ _ _ _ _ _ _ ((hR.ext (by exact (Ext.refl _).drew)).ext hx11) hr11 (Nat.mul_pos hm1 hm2) (by omega) (by omega)).mono ?_; intro e wz hN; rw [sgn_num, sgn_false, sgn_false, mkRat_add _ _ _ _ hm1 hm2, HV.out, HV2.out] at hN; obtain ⟨au, cu, au', cu', rfl, hrz, hfz, hrz', hfz', hxz⟩ := id hN; obtain ⟨r0, r1, r2, r3⟩ := box2 A8 (((Ext.refl wc).drew.trans hx11).trans hxz); obtain ⟨k0_0, k0_1, k0_2, f0_0, f0_1, f0_2⟩ := box3 A0 (((y8.drew).trans hx11).trans hxz); have z0 := (A0.ext (((y8.drew).trans hx11).trans hxz)).lt; obtain ⟨k1_0, k1_1, k1_2, f1_0, f1_1, f1_2⟩ := box3 A1 (((y8.drew).trans hx11).trans hxz); have z1 := (A1.ext (((y8.drew).trans hx11).trans hxz)).lt; obtain ⟨k2_0, k2_1, k2_2, f2_0, f2_1, f2_2⟩ := box3 A2 (((y8.drew).trans hx11).trans hxz); have z2 := (A2.ext (((y8.drew).trans hx11).trans hxz)).lt))
      go_wp2
      exact bodyPost_ret (by simp [results, Tryz.results136, go_sem, *]) rfl (NewRat.touch (hN.base ((y8.drew).trans hx11)) x0 (Touch.three _ (by omega) (by rw [Z0.out]; omega) _ _ _))

/-- rational.Add. -/
theorem rat_Add (w : World) (s : Bool) (a b : Option Addr) (k c j d n m : Nat) (h : Raw w a k c n) (g : Raw w b j d m) (s' : Bool) (a' b' : Option Addr) (k' c' j' d' n' m' : Nat) (h' : Raw w a' k' c' n') (g' : Raw w b' j' d' m') (b1 : len n < 100000000) (b2 : len m < 100000000) (b1' : len n' < 100000000) (b2' : len m' < 100000000) :
    Calls Tryz.prog 136 #[.agg #[.bool s, .slice a k c, .slice b j d], .agg #[.bool s', .slice a' k' c', .slice b' j' d']] w (NewRat (mkRat (sgn s n) m + mkRat (sgn s' n') m') w) := by
  by_cases h0 : mkRat (sgn s n) m = 0
  · exact rat_Add_zero1 w _ _ _ _ _ _ _ _ _ h g _ _ _ _ _ _ _ _ _ h' g' b1 b2 b1' b2' h0
  by_cases h0' : mkRat (sgn s' n') m' = 0
  · exact rat_Add_zero2 w _ _ _ _ _ _ _ _ _ h g _ _ _ _ _ _ _ _ _ h' g' b1 b2 b1' b2' h0 h0'
  by_cases ha : n < 2147483648 ∧ m < 2147483648
  · by_cases hb : n' < 2147483648 ∧ m' < 2147483648
    · exact rat_Add_tt w _ _ _ _ _ _ _ _ _ h g _ _ _ _ _ _ _ _ _ h' g' b1 b2 b1' b2' h0 h0' ha hb
    · exact rat_Add_tf w _ _ _ _ _ _ _ _ _ h g _ _ _ _ _ _ _ _ _ h' g' b1 b2 b1' b2' h0 h0' ha hb
  · by_cases hb : n' < 2147483648 ∧ m' < 2147483648
    · exact rat_Add_ft w _ _ _ _ _ _ _ _ _ h g _ _ _ _ _ _ _ _ _ h' g' b1 b2 b1' b2' h0 h0' ha hb
    · exact rat_Add_ff w _ _ _ _ _ _ _ _ _ h g _ _ _ _ _ _ _ _ _ h' g' b1 b2 b1' b2' h0 h0' ha hb

theorem mkRat_neg_sgn (s : Bool) (n m : Nat) : mkRat (sgn (!s) n) m = - mkRat (sgn s n) m := by rw [sgn_not, Rat.neg_mkRat]

end Go.Proofs.YtgihpfkjpfanmaaGreat
