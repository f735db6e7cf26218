/- Texts of the proof: Rat8, Rats, Rat9, Make3. -/
import Derived.Test.YtgihpfkjpfanmaaGreatGF
/- Contracts of rational.Sub, Div, floor, Floor. -/
namespace Go.Proofs.YtgihpfkjpfanmaaGreat
open Go.RowKit

set_option maxHeartbeats 1000000 in
/-- rational.Sub. -/
theorem rat_Sub (w : World) (s : Bool) (a b : Option Addr) (k c j d n m : Nat) (h : Raw w a k c n) (g : Raw w b j d m) (s' : Bool) (a' b' : Option Addr) (k' c' j' d' n' m' : Nat) (h' : Raw w a' k' c' n') (g' : Raw w b' j' d' m') (b1 : len n < 100000000) (b2 : len m < 100000000) (b1' : len n' < 100000000) (b2' : len m' < 100000000) :
    Calls Tryz.prog 85 #[.agg #[.bool s, .slice a k c, .slice b j d], .agg #[.bool s', .slice a' k' c', .slice b' j' d']] w (NewRat (mkRat (sgn s n) m - mkRat (sgn s' n') m') w) := by
  go_enter Tryz.func85, Tryz.ntmps85
  go_wp2_with fail
  obtain ⟨W, hW, x0, Z0, A0, A1, A2⟩ := boxes3 w 55 [.bool s, .slice a k c, .slice b j d] 55 [.bool (!s'), .slice a' k' c', .slice b' j' d'] 55 [.bool false, .slice none 0 0, .slice none 0 0]
  rw [← hW]
  clear hW
  obtain ⟨k0_0, k0_1, k0_2, f0_0, f0_1, f0_2⟩ := box3 A0 (Ext.refl _)
  have z0 := (A0.ext (Ext.refl _)).lt
  obtain ⟨k1_0, k1_1, k1_2, f1_0, f1_1, f1_2⟩ := box3 A1 (Ext.refl _)
  have z1 := (A1.ext (Ext.refl _)).lt
  obtain ⟨k2_0, k2_1, k2_2, f2_0, f2_1, f2_2⟩ := box3 A2 (Ext.refl _)
  have z2 := (A2.ext (Ext.refl _)).lt
  refine (rat_Add _ _ _ _ _ _ _ _ _ _ (h.ext x0) (g.ext x0) _ _ _ _ _ _ _ _ _ (h'.ext x0) (g'.ext x0) b1 b2 b1' b2').mono ?_
  intro e wz hN
  rw [mkRat_neg_sgn, ← Rat.sub_eq_add_neg] at hN
  obtain ⟨az, cz, az', cz', rfl, hrz, hfz, hrz', hfz', hxz⟩ := id hN
  obtain ⟨k0_0, k0_1, k0_2, f0_0, f0_1, f0_2⟩ := box3 A0 ((Ext.refl W).trans hxz)
  have z0 := (A0.ext ((Ext.refl W).trans hxz)).lt
  obtain ⟨k1_0, k1_1, k1_2, f1_0, f1_1, f1_2⟩ := box3 A1 ((Ext.refl W).trans hxz)
  have z1 := (A1.ext ((Ext.refl W).trans hxz)).lt
  obtain ⟨k2_0, k2_1, k2_2, f2_0, f2_1, f2_2⟩ := box3 A2 ((Ext.refl W).trans hxz)
  have z2 := (A2.ext ((Ext.refl W).trans hxz)).lt
  go_wp2
  exact bodyPost_ret (by simp [results, Tryz.results85, go_sem, *]) rfl (NewRat.touch (hN.base (Ext.refl W)) x0 (Touch.three _ (by omega) (by rw [Z0.out]; omega) _ _ _))

/-- A call returns a new rational number and true. -/
def NewRatOk (q : Rat) (w : World) (e : Ending) (w' : World) : Prop := ∃ a c a' c', e = .returned (.tuple #[.agg #[.bool (decide (q.num < 0)), .slice a (len q.num.natAbs) c, .slice a' (len q.den) c'], .bool true]) ∧
  Raw w' a (len q.num.natAbs) c q.num.natAbs ∧ Fr w.heap.size a ∧ Raw w' a' (len q.den) c' q.den ∧ Fr w.heap.size a' ∧ Ext w w'

theorem mkRat_inv (s : Bool) (n m : Nat) : mkRat (sgn s m) n = (mkRat (sgn s n) m)⁻¹ := by
  rw [← Rat.divInt_ofNat, ← Rat.divInt_ofNat, Rat.inv_divInt]
  cases s
  · rfl
  · rw [sgn_true, sgn_true, Rat.divInt_neg']

set_option maxHeartbeats 1000000 in
/-- rational.Div by 0. -/
theorem rat_Div_zero (w : World) (s : Bool) (a b : Option Addr) (k c j d n m : Nat) (_h : Raw w a k c n) (_g : Raw w b j d m) (s' : Bool) (a' b' : Option Addr) (k' c' j' d' n' m' : Nat) (h' : Raw w a' k' c' n') (g' : Raw w b' j' d' m') (h0 : mkRat (sgn s' n') m' = 0) :
    Calls Tryz.prog 95 #[.agg #[.bool s, .slice a k c, .slice b j d], .agg #[.bool s', .slice a' k' c', .slice b' j' d']] w fun e w' => e = .returned (.tuple #[.agg #[.bool false, .slice none 0 0, .slice none 0 0], .bool false]) ∧ Ext w w' := by
  have hs : (mkRat (sgn s' n') m').num.sign = 0 := sign_zero_iff.2 h0
  clear h0
  go_enter Tryz.func95, Tryz.ntmps95
  go_wp2_with fail
  obtain ⟨W, hW, x0, Z0, A0, A1, A2⟩ := boxes3 w 55 [.bool s, .slice a k c, .slice b j d] 55 [.bool s', .slice a' k' c', .slice b' j' d'] 55 [.bool false, .slice none 0 0, .slice none 0 0]
  rw [← hW]
  clear hW
  obtain ⟨k0_0, k0_1, k0_2, f0_0, f0_1, f0_2⟩ := box3 A0 (Ext.refl _)
  have z0 := (A0.ext (Ext.refl _)).lt
  obtain ⟨k1_0, k1_1, k1_2, f1_0, f1_1, f1_2⟩ := box3 A1 (Ext.refl _)
  have z1 := (A1.ext (Ext.refl _)).lt
  obtain ⟨k2_0, k2_1, k2_2, f2_0, f2_1, f2_2⟩ := box3 A2 (Ext.refl _)
  have z2 := (A2.ext (Ext.refl _)).lt
  refine (rat_Sign _ _ _ _ _ _ _ _ _ _ (h'.ext x0) (g'.ext x0)).mono ?_
  rintro e w1 ⟨rfl, hx1⟩
  rw [hs]
  clear hs
  obtain ⟨k0_0, k0_1, k0_2, f0_0, f0_1, f0_2⟩ := box3 A0 hx1
  have z0 := (A0.ext hx1).lt
  obtain ⟨k1_0, k1_1, k1_2, f1_0, f1_1, f1_2⟩ := box3 A1 hx1
  have z1 := (A1.ext hx1).lt
  obtain ⟨k2_0, k2_1, k2_2, f2_0, f2_1, f2_2⟩ := box3 A2 hx1
  have z2 := (A2.ext hx1).lt
  go_wp2
  exact bodyPost_ret (by simp [results, Tryz.results95, go_sem, *]) rfl ⟨rfl, Ext.set3 (x0.trans hx1) (by omega) _ _ _⟩

set_option maxHeartbeats 1000000 in
/-- rational.Div. -/
theorem rat_Div (w : World) (s : Bool) (a b : Option Addr) (k c j d n m : Nat) (h : Raw w a k c n) (g : Raw w b j d m) (s' : Bool) (a' b' : Option Addr) (k' c' j' d' n' m' : Nat) (h' : Raw w a' k' c' n') (g' : Raw w b' j' d' m') (b1 : len n < 100000000) (b2 : len m < 100000000) (b1' : len n' < 100000000) (b2' : len m' < 100000000) (h0 : ¬ mkRat (sgn s' n') m' = 0) :
    Calls Tryz.prog 95 #[.agg #[.bool s, .slice a k c, .slice b j d], .agg #[.bool s', .slice a' k' c', .slice b' j' d']] w (NewRatOk (mkRat (sgn s n) m / mkRat (sgn s' n') m') w) := by
  have hs : ((mkRat (sgn s' n') m').num.sign == 0) = false := by rw [beq_eq_false_iff_ne]; exact fun h => h0 (sign_zero_iff.1 h)
  clear h0
  go_enter Tryz.func95, Tryz.ntmps95
  go_wp2_with fail
  obtain ⟨W, hW, x0, Z0, A0, A1, A2⟩ := boxes3 w 55 [.bool s, .slice a k c, .slice b j d] 55 [.bool s', .slice a' k' c', .slice b' j' d'] 55 [.bool false, .slice none 0 0, .slice none 0 0]
  rw [← hW]
  clear hW
  obtain ⟨k0_0, k0_1, k0_2, f0_0, f0_1, f0_2⟩ := box3 A0 (Ext.refl _)
  have z0 := (A0.ext (Ext.refl _)).lt
  obtain ⟨k1_0, k1_1, k1_2, f1_0, f1_1, f1_2⟩ := box3 A1 (Ext.refl _)
  have z1 := (A1.ext (Ext.refl _)).lt
  obtain ⟨k2_0, k2_1, k2_2, f2_0, f2_1, f2_2⟩ := box3 A2 (Ext.refl _)
  have z2 := (A2.ext (Ext.refl _)).lt
  refine (rat_Sign _ _ _ _ _ _ _ _ _ _ (h'.ext x0) (g'.ext x0)).mono ?_
  rintro e w1 ⟨rfl, hx1⟩
  obtain ⟨k0_0, k0_1, k0_2, f0_0, f0_1, f0_2⟩ := box3 A0 hx1
  have z0 := (A0.ext hx1).lt
  obtain ⟨k1_0, k1_1, k1_2, f1_0, f1_1, f1_2⟩ := box3 A1 hx1
  have z1 := (A1.ext hx1).lt
  obtain ⟨k2_0, k2_1, k2_2, f2_0, f2_1, f2_2⟩ := box3 A2 hx1
  have z2 := (A2.ext hx1).lt
  go_wp2_with fail
  refine (rat_Mul _ _ _ _ _ _ _ _ _ _ ((h.ext x0).ext hx1) ((g.ext x0).ext hx1) _ _ _ _ _ _ _ _ _ ((g'.ext x0).ext hx1) ((h'.ext x0).ext hx1) b1 b2 b2' b1').mono ?_
  intro e wz hN
  rw [mkRat_inv s' n' m', ← Rat.div_def] at hN
  obtain ⟨az, cz, az', cz', rfl, hrz, hfz, hrz', hfz', hxz⟩ := id hN
  obtain ⟨k0_0, k0_1, k0_2, f0_0, f0_1, f0_2⟩ := box3 A0 (hx1.trans hxz)
  have z0 := (A0.ext (hx1.trans hxz)).lt
  obtain ⟨k1_0, k1_1, k1_2, f1_0, f1_1, f1_2⟩ := box3 A1 (hx1.trans hxz)
  have z1 := (A1.ext (hx1.trans hxz)).lt
  obtain ⟨k2_0, k2_1, k2_2, f2_0, f2_1, f2_2⟩ := box3 A2 (hx1.trans hxz)
  have z2 := (A2.ext (hx1.trans hxz)).lt
  go_wp2
  obtain ⟨au, cu, au', cu', he, hr, hf, hr', hf', hx⟩ := NewRat.touch (hN.base hx1) x0 (Touch.three (b := w.heap.size + 2) wz (by omega) (by rw [Z0.out]; omega) (.bool (decide ((mkRat (sgn s n) m / mkRat (sgn s' n') m').num < 0))) (.slice az (len (mkRat (sgn s n) m / mkRat (sgn s' n') m').num.natAbs) cz) (.slice az' (len (mkRat (sgn s n) m / mkRat (sgn s' n') m').den) cz'))
  cases he
  exact bodyPost_ret (v := .tuple #[.agg #[.bool (decide ((mkRat (sgn s n) m / mkRat (sgn s' n') m').num < 0)), .slice az (len (mkRat (sgn s n) m / mkRat (sgn s' n') m').num.natAbs) cz, .slice az' (len (mkRat (sgn s n) m / mkRat (sgn s' n') m').den) cz'], .bool true]) (by simp [results, Tryz.results95, go_sem, *]) rfl ⟨az, cz, az', cz', rfl, hr, hf, hr', hf', hx⟩

theorem Ext.of_touch {w w3 w4 : World} {hi : Nat} (h : Ext w w3) (t : Touch w.heap.size hi w3 w4) : Ext w w4 :=
  ⟨⟨t.os.trans h.below.os, t.tape.trans h.below.tape, t.output.trans h.below.output, by rw [t.size]; exact h.below.size, fun k hk => (t.block k (Or.inl hk)).trans (h.below.block k hk)⟩, Nat.le_trans h.drawn t.drawn⟩

theorem floor_mkRat (x : Int) (y : Nat) (h : 0 < y) : (mkRat x y).floor = x / y := by
  obtain ⟨g, g0, e1, e2⟩ := mkRat_scaled x y h
  generalize mkRat x y = p at *
  subst e1 e2
  rw [Rat.floor_def, Int.natCast_mul, Int.mul_ediv_mul_of_pos_left _ _ (by omega)]

/-- What rational.floor returns. -/
def FloorOf (q : Rat) (w : World) (e : Ending) (w' : World) : Prop := ∃ (r : Int) (a c : _) (a1 : Option Addr) (c1 : Nat) (a2 : Option Addr) (k2 c2 : Nat), e = .returned (.tuple #[.agg #[.bool (decide (q.floor < 0)), .slice a (len q.floor.natAbs) c], .agg #[.bool (decide (r < 0)), .slice a1 (len r.natAbs) c1], .agg #[.bool false, .slice a2 k2 c2]]) ∧
  Raw w' a (len q.floor.natAbs) c q.floor.natAbs ∧ Fr w.heap.size a ∧ Raw w' a1 (len r.natAbs) c1 r.natAbs ∧ Fr w.heap.size a1 ∧ (r = 0 ↔ (q.floor : Rat) = q) ∧ Ext w w'

set_option maxHeartbeats 400000 in
/-- rational.parts where the denominator is not 0. -/
theorem rat_parts_pos (w : World) (s : Bool) (a b : Option Addr) (k c j d n m : Nat) (_h : Raw w a k c n) (g : Raw w b j d m) (hm : 0 < m) :
    Calls Tryz.prog 132 #[.agg #[.bool s, .slice a k c, .slice b j d]] w fun e w' => e = .returned (.tuple #[.agg #[.bool s, .slice a k c], .slice b j d]) ∧ Ext w w' := by
  have hc : cmpN m 0 = 1 := by unfold cmpN; rw [if_neg (by omega), if_neg (by omega)]
  have HC := Lib.hid hc; clear hc
  go_enter Tryz.func132, Tryz.ntmps132
  go_wp2_with fail
  obtain ⟨W, hW, x0, Z0, A0, A1⟩ := boxes2 w 55 [.bool s, .slice a k c, .slice b j d] 53 [.bool false, .slice none 0 0]
  rw [← hW]
  clear hW
  obtain ⟨k0_0, k0_1, k0_2, f0_0, f0_1, f0_2⟩ := box3 A0 (Ext.refl _)
  have z0 := (A0.ext (Ext.refl _)).lt
  obtain ⟨k1_0, k1_1, f1_0, f1_1⟩ := box2 A1 (Ext.refl _)
  have z1 := (A1.ext (Ext.refl _)).lt
  refine (nat_Compare _ _ _ _ _ _ _ _ _ (g.ext x0) (Raw.nil _)).mono ?_
  rintro e w1 ⟨rfl, hq1⟩
  rw [HC.out]
  obtain ⟨k0_0, k0_1, k0_2, f0_0, f0_1, f0_2⟩ := box3 A0 hq1.ext
  have z0 := (A0.ext hq1.ext).lt
  obtain ⟨k1_0, k1_1, f1_0, f1_1⟩ := box2 A1 hq1.ext
  have z1 := (A1.ext hq1.ext).lt
  go_wp2
  go_region
  go_wp2
  exact bodyPost_ret (v := .tuple #[.agg #[.bool s, .slice a k c], .slice b j d]) (by simp [results, Tryz.results132, go_sem, *]) rfl ⟨rfl, (Ext.set2 (x0.trans hq1.ext) (by omega) _ _).drew⟩

set_option maxHeartbeats 400000 in
/-- rational.parts where the denominator is 0. -/
theorem rat_parts_zero (w : World) (s : Bool) (a b : Option Addr) (k c j d : Nat) (g : Raw w b j d 0) :
    Calls Tryz.prog 132 #[.agg #[.bool s, .slice a k c, .slice b j d]] w fun e w' => ∃ e1, e = .returned (.tuple #[.agg #[.bool false, .slice none 0 0], .slice e1 1 1]) ∧ Raw w' e1 1 1 1 ∧ Fr w.heap.size e1 ∧ Ext w w' := by
  have hc : cmpN 0 0 = 0 := rfl
  go_enter Tryz.func132, Tryz.ntmps132
  go_wp2_with fail
  obtain ⟨W, hW, x0, Z0, A0, A1⟩ := boxes2 w 55 [.bool s, .slice a k c, .slice b j d] 53 [.bool false, .slice none 0 0]
  rw [← hW]
  clear hW
  obtain ⟨k0_0, k0_1, k0_2, f0_0, f0_1, f0_2⟩ := box3 A0 (Ext.refl _)
  have z0 := (A0.ext (Ext.refl _)).lt
  obtain ⟨k1_0, k1_1, f1_0, f1_1⟩ := box2 A1 (Ext.refl _)
  have z1 := (A1.ext (Ext.refl _)).lt
  refine (nat_Compare _ _ _ _ _ _ _ _ _ (g.ext x0) (Raw.nil _)).mono ?_
  rintro e w1 ⟨rfl, hq1⟩
  rw [hc]
  obtain ⟨k0_0, k0_1, k0_2, f0_0, f0_1, f0_2⟩ := box3 A0 hq1.ext
  have z0 := (A0.ext hq1.ext).lt
  obtain ⟨k1_0, k1_1, f1_0, f1_1⟩ := box2 A1 hq1.ext
  have z1 := (A1.ext hq1.ext).lt
  go_wp2
  refine bodyPost_ret (v := .tuple #[.agg #[.bool false, .slice none 0 0], .slice (some ⟨w1.heap.size, 0, none⟩) 1 1]) (by simp [results, Tryz.results132, go_sem, *]) rfl ⟨some ⟨w1.heap.size, 0, none⟩, rfl, ?_, Fr.some (x0.trans hq1.ext).size, ?_⟩
  · have := raw_one ((w1.setCell ⟨w.heap.size + 1, 0, none⟩ (.bool false)).setCell ⟨w.heap.size + 1, 1, none⟩ (.slice none 0 0)); simpa using this
  · exact (Ext.set2 (x0.trans hq1.ext) (by omega) _ _).alloc _

/-- The rest of a division. -/
theorem rest_zero (x : Int) (y : Nat) (h : 0 < y) : x % (y : Int) = 0 ↔ (((mkRat x y).floor : Int) : Rat) = mkRat x y := by
  rw [floor_mkRat x y h]
  constructor
  · intro h0
    obtain ⟨z, rfl⟩ := Int.dvd_of_emod_eq_zero h0
    rw [Int.mul_ediv_cancel_left _ (by omega), Rat.mkRat_eq_div]
    rw [Rat.intCast_mul, Rat.intCast_natCast, Rat.mul_comm, Rat.mul_div_cancel (by intro h1; rw [Rat.natCast_eq_zero_iff] at h1; omega)]
  · intro h0
    rw [Rat.mkRat_eq_div] at h0
    have h1 : (((x / (y : Int)) : Int) : Rat) * (y : Rat) = (x : Rat) := by
      rw [h0, Rat.div_mul_cancel (by intro h1; rw [Rat.natCast_eq_zero_iff] at h1; omega)]
    rw [← Rat.intCast_natCast, ← Rat.intCast_mul, Rat.intCast_inj] at h1
    have := Int.emod_add_mul_ediv x y
    rw [Int.mul_comm] at h1
    omega

set_option maxHeartbeats 2000000 in
/-- rational.floor. -/
theorem rat_floor (w : World) (s : Bool) (a b : Option Addr) (k c j d n m : Nat) (h : Raw w a k c n) (g : Raw w b j d m) (b1 : len n < 100000000) (b2 : len m < 100000000) :
    Calls Tryz.prog 149 #[.agg #[.bool s, .slice a k c, .slice b j d]] w (FloorOf (mkRat (sgn s n) m) w) := by
  by_cases hm : 0 < m
  · skip
    go_enter Tryz.func149, Tryz.ntmps149
    go_wp2_with fail
    obtain ⟨W, hW, x0, Z0, A0, A1, A2, A3⟩ := boxes4 w 55 [.bool s, .slice a k c, .slice b j d] 53 [.bool false, .slice none 0 0] 53 [.bool false, .slice none 0 0] 53 [.bool false, .slice none 0 0]
    rw [← hW]
    clear hW
    obtain ⟨k0_0, k0_1, k0_2, f0_0, f0_1, f0_2⟩ := box3 A0 (Ext.refl _)
    have z0 := (A0.ext (Ext.refl _)).lt
    obtain ⟨k1_0, k1_1, f1_0, f1_1⟩ := box2 A1 (Ext.refl _)
    have z1 := (A1.ext (Ext.refl _)).lt
    obtain ⟨k2_0, k2_1, f2_0, f2_1⟩ := box2 A2 (Ext.refl _)
    have z2 := (A2.ext (Ext.refl _)).lt
    obtain ⟨k3_0, k3_1, f3_0, f3_1⟩ := box2 A3 (Ext.refl _)
    have z3 := (A3.ext (Ext.refl _)).lt
    refine (rat_parts_pos _ _ _ _ _ _ _ _ _ _ (h.ext x0) (g.ext x0) hm).mono ?_
    rintro e w1 ⟨rfl, hx1⟩
    obtain ⟨k0_0, k0_1, k0_2, f0_0, f0_1, f0_2⟩ := box3 A0 hx1
    have z0 := (A0.ext hx1).lt
    obtain ⟨k1_0, k1_1, f1_0, f1_1⟩ := box2 A1 hx1
    have z1 := (A1.ext hx1).lt
    obtain ⟨k2_0, k2_1, f2_0, f2_1⟩ := box2 A2 hx1
    have z2 := (A2.ext hx1).lt
    obtain ⟨k3_0, k3_1, f3_0, f3_1⟩ := box2 A3 hx1
    have z3 := (A3.ext hx1).lt
    go_wp2_with fail
    obtain ⟨w2, hw2⟩ : ∃ w2, w2 = ((w1.setCell ⟨w.heap.size + 1 + 1 + 1, 0, none⟩ (.bool false)).setCell ⟨w.heap.size + 1 + 1 + 1, 1, none⟩ (.slice b j d)).alloc (Obj.cells #[.bool s, .slice a k c] 53) := ⟨_, rfl⟩
    rw [← hw2]
    have E2 : Ext w w2 := by rw [hw2]; exact (Ext.set2 (x0.trans hx1) (by omega) _ _).alloc _
    have S2 : w2.heap.size = w1.heap.size + 1 := by rw [hw2]; simp
    have C1 : Arr w2 (w.heap.size + 1) 53 [.bool false, .slice none 0 0] := by rw [hw2]; exact (((A1.ext hx1).other _ _ (by simp <;> omega)).other _ _ (by simp <;> omega)).ext ((Ext.refl _).alloc _)
    have C2 : Arr w2 (w.heap.size + 2) 53 [.bool false, .slice none 0 0] := by rw [hw2]; exact (((A2.ext hx1).other _ _ (by simp <;> omega)).other _ _ (by simp <;> omega)).ext ((Ext.refl _).alloc _)
    have C3 : Arr w2 (w.heap.size + 3) 53 [.bool false, .slice b j d] := by rw [hw2]; exact (((A3.ext hx1).set 0 _).set 1 _).ext ((Ext.refl _).alloc _)
    have sz1 := hx1.size
    rw [Z0.out] at sz1
    clear hw2 k1_0 f1_0 k1_1 f1_1 k2_0 f2_0 k2_1 f2_1 k3_0 f3_0 k3_1 f3_1 k0_0 k0_1 k0_2 f0_0 f0_1 f0_2 z0 z1 z2 z3
    refine (int_DivMod _ _ _ _ _ _ _ _ _ _ _ (h.ext E2) (g.ext E2) hm (by omega)).mono ?_
    rintro e w3 ⟨a3, c3, a4, c4, rfl, hr3, hf3, hr4, hf4, hx3⟩
    obtain ⟨k1_0, k1_1, f1_0, f1_1⟩ := box2 C1 hx3
    have z1 := (C1.ext hx3).lt
    obtain ⟨k2_0, k2_1, f2_0, f2_1⟩ := box2 C2 hx3
    have z2 := (C2.ext hx3).lt
    obtain ⟨k3_0, k3_1, f3_0, f3_1⟩ := box2 C3 hx3
    have z3 := (C3.ext hx3).lt
    generalize hX : sgn s n / sgn false m = X at *
    generalize hY : sgn s n % sgn false m = Y at *
    have HX := Lib.hid hX; have HY := Lib.hid hY; clear hX hY
    go_wp2
    obtain ⟨w4, hw4⟩ : ∃ w4, w4 = ((((w3.setCell ⟨w.heap.size + 1, 0, none⟩ (.bool (decide (X < 0)))).setCell ⟨w.heap.size + 1, 1, none⟩ (.slice a3 (len X.natAbs) c3)).setCell ⟨w.heap.size + 1 + 1, 0, none⟩ (.bool (decide (Y < 0)))).setCell ⟨w.heap.size + 1 + 1, 1, none⟩ (.slice a4 (len Y.natAbs) c4)) := ⟨_, rfl⟩
    rw [← hw4]
    have T4 : Touch w.heap.size W.heap.size w3 w4 := by rw [hw4]; exact (Touch.two _ (by omega) (by rw [Z0.out]; omega) _ _).trans (Touch.two _ (by omega) (by rw [Z0.out]; omega) _ _)
    have D1 : Arr w4 (w.heap.size + 1) 53 [.bool (decide (X < 0)), .slice a3 (len X.natAbs) c3] := by rw [hw4]; exact ((((C1.ext hx3).set 0 _).set 1 _).other _ _ (by simp <;> omega)).other _ _ (by simp <;> omega)
    have D2 : Arr w4 (w.heap.size + 2) 53 [.bool (decide (Y < 0)), .slice a4 (len Y.natAbs) c4] := by rw [hw4]; exact ((((C2.ext hx3).other _ _ (by simp <;> omega)).other _ _ (by simp <;> omega)).set 0 _).set 1 _
    have D3 : Arr w4 (w.heap.size + 3) 53 [.bool false, .slice b j d] := by rw [hw4]; exact (((((C3.ext hx3).other _ _ (by simp <;> omega)).other _ _ (by simp <;> omega))).other _ _ (by simp <;> omega)).other _ _ (by simp <;> omega)
    clear hw4 k1_0 f1_0 k1_1 f1_1 k2_0 f2_0 k2_1 f2_1 k3_0 f3_0 k3_1 f3_1 z1 z2 z3
    obtain ⟨k1_0, k1_1, f1_0, f1_1⟩ := box2 D1 (Ext.refl _)
    have z1 := D1.lt
    obtain ⟨k2_0, k2_1, f2_0, f2_1⟩ := box2 D2 (Ext.refl _)
    have z2 := D2.lt
    obtain ⟨k3_0, k3_1, f3_0, f3_1⟩ := box2 D3 (Ext.refl _)
    have z3 := D3.lt
    go_region
    go_wp2
    obtain ⟨w5, hw5⟩ : ∃ w5, w5 = ((((((w4.setCell ⟨w.heap.size + 1, 0, none⟩ (.bool (decide (X < 0)))).setCell ⟨w.heap.size + 1, 1, none⟩ (.slice a3 (len X.natAbs) c3)).setCell ⟨w.heap.size + 1 + 1, 0, none⟩ (.bool (decide (Y < 0)))).setCell ⟨w.heap.size + 1 + 1, 1, none⟩ (.slice a4 (len Y.natAbs) c4)).setCell ⟨w.heap.size + 1 + 1 + 1, 0, none⟩ (.bool false)).setCell ⟨w.heap.size + 1 + 1 + 1, 1, none⟩ (.slice b j d)).drew := ⟨_, rfl⟩
    rw [← hw5]
    have T5 : Touch w.heap.size W.heap.size w4 w5 := by rw [hw5]; exact (((Touch.two _ (by omega) (by rw [Z0.out]; omega) _ _).trans (Touch.two _ (by omega) (by rw [Z0.out]; omega) _ _)).trans (Touch.two _ (by omega) (by rw [Z0.out]; omega) _ _)).drew
    have dr : ∀ (wa : World), Ext wa wa.drew := fun wa => (Ext.refl wa).drew
    have E1 : Arr w5 (w.heap.size + 1) 53 [.bool (decide (X < 0)), .slice a3 (len X.natAbs) c3] := by rw [hw5]; exact (((((((D1.set 0 _).set 1 _).other _ _ (by simp <;> omega)).other _ _ (by simp <;> omega)).other _ _ (by simp <;> omega)).other _ _ (by simp <;> omega))).ext (dr _)
    have E2' : Arr w5 (w.heap.size + 2) 53 [.bool (decide (Y < 0)), .slice a4 (len Y.natAbs) c4] := by rw [hw5]; exact ((((((D2.other _ _ (by simp <;> omega)).other _ _ (by simp <;> omega)).set 0 _).set 1 _).other _ _ (by simp <;> omega)).other _ _ (by simp <;> omega)).ext (dr _)
    have E3 : Arr w5 (w.heap.size + 3) 53 [.bool false, .slice b j d] := by rw [hw5]; exact ((((((D3.other _ _ (by simp <;> omega)).other _ _ (by simp <;> omega)).other _ _ (by simp <;> omega)).other _ _ (by simp <;> omega)).set 0 _).set 1 _).ext (dr _)
    clear hw5 k1_0 f1_0 k1_1 f1_1 k2_0 f2_0 k2_1 f2_1 k3_0 f3_0 k3_1 f3_1 z1 z2 z3
    obtain ⟨k1_0, k1_1, f1_0, f1_1⟩ := box2 E1 (Ext.refl _)
    obtain ⟨k2_0, k2_1, f2_0, f2_1⟩ := box2 E2' (Ext.refl _)
    obtain ⟨k3_0, k3_1, f3_0, f3_1⟩ := box2 E3 (Ext.refl _)
    have F3 : Fr W.heap.size a3 := hf3.mono (by rw [Z0.out]; omega)
    have F4 : Fr W.heap.size a4 := hf4.mono (by rw [Z0.out]; omega)
    have fin : ∀ w4, Touch w.heap.size W.heap.size w3 w4 → FloorOf (mkRat (sgn s n) m) w (.returned (.tuple #[.agg #[.bool (decide (X < 0)), .slice a3 (len X.natAbs) c3], .agg #[.bool (decide (Y < 0)), .slice a4 (len Y.natAbs) c4], .agg #[.bool false, .slice b j d]])) w4 := by
      intro w4 t4
      have ef1 : (mkRat (sgn s n) m).floor = X := by rw [floor_mkRat _ _ hm, ← HX.out]; rfl
      have e2 := rest_zero (sgn s n) m hm
      have e3 : sgn s n % (m : Int) = Y := HY.out
      rw [e3] at e2
      refine ⟨Y, a3, c3, a4, c4, b, j, d, by rw [ef1], by rw [ef1]; exact hr3.touch t4 F3.out, F3.mono x0.size, hr4.touch t4 F4.out, F4.mono x0.size, e2, (E2.trans hx3).of_touch t4⟩
    exact bodyPost_ret (by simp [results, Tryz.results149, go_sem, k1_0, k1_1, k2_0, k2_1, k3_0, k3_1]) rfl (fin _ (T4.trans T5))
  · obtain rfl : m = 0 := by omega
    go_enter Tryz.func149, Tryz.ntmps149
    go_wp2_with fail
    obtain ⟨W, hW, x0, Z0, A0, A1, A2, A3⟩ := boxes4 w 55 [.bool s, .slice a k c, .slice b j d] 53 [.bool false, .slice none 0 0] 53 [.bool false, .slice none 0 0] 53 [.bool false, .slice none 0 0]
    rw [← hW]
    clear hW
    obtain ⟨k0_0, k0_1, k0_2, f0_0, f0_1, f0_2⟩ := box3 A0 (Ext.refl _)
    have z0 := (A0.ext (Ext.refl _)).lt
    obtain ⟨k1_0, k1_1, f1_0, f1_1⟩ := box2 A1 (Ext.refl _)
    have z1 := (A1.ext (Ext.refl _)).lt
    obtain ⟨k2_0, k2_1, f2_0, f2_1⟩ := box2 A2 (Ext.refl _)
    have z2 := (A2.ext (Ext.refl _)).lt
    obtain ⟨k3_0, k3_1, f3_0, f3_1⟩ := box2 A3 (Ext.refl _)
    have z3 := (A3.ext (Ext.refl _)).lt
    refine (rat_parts_zero _ _ _ _ _ _ _ _ (g.ext x0)).mono ?_
    rintro e w1 ⟨e1, rfl, hre, hfe, hx1⟩
    obtain ⟨k0_0, k0_1, k0_2, f0_0, f0_1, f0_2⟩ := box3 A0 hx1
    have z0 := (A0.ext hx1).lt
    obtain ⟨k1_0, k1_1, f1_0, f1_1⟩ := box2 A1 hx1
    have z1 := (A1.ext hx1).lt
    obtain ⟨k2_0, k2_1, f2_0, f2_1⟩ := box2 A2 hx1
    have z2 := (A2.ext hx1).lt
    obtain ⟨k3_0, k3_1, f3_0, f3_1⟩ := box2 A3 hx1
    have z3 := (A3.ext hx1).lt
    go_wp2_with fail
    obtain ⟨w2, hw2⟩ : ∃ w2, w2 = ((w1.setCell ⟨w.heap.size + 1 + 1 + 1, 0, none⟩ (.bool false)).setCell ⟨w.heap.size + 1 + 1 + 1, 1, none⟩ (.slice e1 1 1)).alloc (Obj.cells #[.bool false, .slice none 0 0] 53) := ⟨_, rfl⟩
    rw [← hw2]
    have E2 : Ext w w2 := by rw [hw2]; exact (Ext.set2 (x0.trans hx1) (by omega) _ _).alloc _
    have S2 : w2.heap.size = w1.heap.size + 1 := by rw [hw2]; simp
    have C1 : Arr w2 (w.heap.size + 1) 53 [.bool false, .slice none 0 0] := by rw [hw2]; exact (((A1.ext hx1).other _ _ (by simp <;> omega)).other _ _ (by simp <;> omega)).ext ((Ext.refl _).alloc _)
    have C2 : Arr w2 (w.heap.size + 2) 53 [.bool false, .slice none 0 0] := by rw [hw2]; exact (((A2.ext hx1).other _ _ (by simp <;> omega)).other _ _ (by simp <;> omega)).ext ((Ext.refl _).alloc _)
    have C3 : Arr w2 (w.heap.size + 3) 53 [.bool false, .slice e1 1 1] := by rw [hw2]; exact (((A3.ext hx1).set 0 _).set 1 _).ext ((Ext.refl _).alloc _)
    have re2 : Raw w2 e1 1 1 1 := by rw [hw2]; exact (hre.touch (Touch.two (lo := w.heap.size) (hi := W.heap.size) _ (by omega) (by rw [Z0.out]; omega) _ _) hfe.out).ext ((Ext.refl _).alloc _)
    have sz1 := hx1.size
    rw [Z0.out] at sz1
    clear hw2 k1_0 f1_0 k1_1 f1_1 k2_0 f2_0 k2_1 f2_1 k3_0 f3_0 k3_1 f3_1 k0_0 k0_1 k0_2 f0_0 f0_1 f0_2 z0 z1 z2 z3
    refine (int_DivMod _ _ _ _ _ _ _ _ _ _ _ (Raw.nil _) re2 (by omega) (by rw [len_zero]; omega)).mono ?_
    rintro e w3 ⟨a3, c3, a4, c4, rfl, hr3, hf3, hr4, hf4, hx3⟩
    obtain ⟨k1_0, k1_1, f1_0, f1_1⟩ := box2 C1 hx3
    have z1 := (C1.ext hx3).lt
    obtain ⟨k2_0, k2_1, f2_0, f2_1⟩ := box2 C2 hx3
    have z2 := (C2.ext hx3).lt
    obtain ⟨k3_0, k3_1, f3_0, f3_1⟩ := box2 C3 hx3
    have z3 := (C3.ext hx3).lt
    generalize hX : sgn false 0 / sgn false 1 = X at *
    generalize hY : sgn false 0 % sgn false 1 = Y at *
    have HX := Lib.hid hX; have HY := Lib.hid hY; clear hX hY
    go_wp2
    obtain ⟨w4, hw4⟩ : ∃ w4, w4 = ((((w3.setCell ⟨w.heap.size + 1, 0, none⟩ (.bool (decide (X < 0)))).setCell ⟨w.heap.size + 1, 1, none⟩ (.slice a3 (len X.natAbs) c3)).setCell ⟨w.heap.size + 1 + 1, 0, none⟩ (.bool (decide (Y < 0)))).setCell ⟨w.heap.size + 1 + 1, 1, none⟩ (.slice a4 (len Y.natAbs) c4)) := ⟨_, rfl⟩
    rw [← hw4]
    have T4 : Touch w.heap.size W.heap.size w3 w4 := by rw [hw4]; exact (Touch.two _ (by omega) (by rw [Z0.out]; omega) _ _).trans (Touch.two _ (by omega) (by rw [Z0.out]; omega) _ _)
    have D1 : Arr w4 (w.heap.size + 1) 53 [.bool (decide (X < 0)), .slice a3 (len X.natAbs) c3] := by rw [hw4]; exact ((((C1.ext hx3).set 0 _).set 1 _).other _ _ (by simp <;> omega)).other _ _ (by simp <;> omega)
    have D2 : Arr w4 (w.heap.size + 2) 53 [.bool (decide (Y < 0)), .slice a4 (len Y.natAbs) c4] := by rw [hw4]; exact ((((C2.ext hx3).other _ _ (by simp <;> omega)).other _ _ (by simp <;> omega)).set 0 _).set 1 _
    have D3 : Arr w4 (w.heap.size + 3) 53 [.bool false, .slice e1 1 1] := by rw [hw4]; exact (((((C3.ext hx3).other _ _ (by simp <;> omega)).other _ _ (by simp <;> omega))).other _ _ (by simp <;> omega)).other _ _ (by simp <;> omega)
    clear hw4 k1_0 f1_0 k1_1 f1_1 k2_0 f2_0 k2_1 f2_1 k3_0 f3_0 k3_1 f3_1 z1 z2 z3
    obtain ⟨k1_0, k1_1, f1_0, f1_1⟩ := box2 D1 (Ext.refl _)
    have z1 := D1.lt
    obtain ⟨k2_0, k2_1, f2_0, f2_1⟩ := box2 D2 (Ext.refl _)
    have z2 := D2.lt
    obtain ⟨k3_0, k3_1, f3_0, f3_1⟩ := box2 D3 (Ext.refl _)
    have z3 := D3.lt
    go_region
    go_wp2
    obtain ⟨w5, hw5⟩ : ∃ w5, w5 = ((((((w4.setCell ⟨w.heap.size + 1, 0, none⟩ (.bool (decide (X < 0)))).setCell ⟨w.heap.size + 1, 1, none⟩ (.slice a3 (len X.natAbs) c3)).setCell ⟨w.heap.size + 1 + 1, 0, none⟩ (.bool (decide (Y < 0)))).setCell ⟨w.heap.size + 1 + 1, 1, none⟩ (.slice a4 (len Y.natAbs) c4)).setCell ⟨w.heap.size + 1 + 1 + 1, 0, none⟩ (.bool false)).setCell ⟨w.heap.size + 1 + 1 + 1, 1, none⟩ (.slice e1 1 1)).drew := ⟨_, rfl⟩
    rw [← hw5]
    have T5 : Touch w.heap.size W.heap.size w4 w5 := by rw [hw5]; exact (((Touch.two _ (by omega) (by rw [Z0.out]; omega) _ _).trans (Touch.two _ (by omega) (by rw [Z0.out]; omega) _ _)).trans (Touch.two _ (by omega) (by rw [Z0.out]; omega) _ _)).drew
    have dr : ∀ (wa : World), Ext wa wa.drew := fun wa => (Ext.refl wa).drew
    have E1 : Arr w5 (w.heap.size + 1) 53 [.bool (decide (X < 0)), .slice a3 (len X.natAbs) c3] := by rw [hw5]; exact (((((((D1.set 0 _).set 1 _).other _ _ (by simp <;> omega)).other _ _ (by simp <;> omega)).other _ _ (by simp <;> omega)).other _ _ (by simp <;> omega))).ext (dr _)
    have E2' : Arr w5 (w.heap.size + 2) 53 [.bool (decide (Y < 0)), .slice a4 (len Y.natAbs) c4] := by rw [hw5]; exact ((((((D2.other _ _ (by simp <;> omega)).other _ _ (by simp <;> omega)).set 0 _).set 1 _).other _ _ (by simp <;> omega)).other _ _ (by simp <;> omega)).ext (dr _)
    have E3 : Arr w5 (w.heap.size + 3) 53 [.bool false, .slice e1 1 1] := by rw [hw5]; exact ((((((D3.other _ _ (by simp <;> omega)).other _ _ (by simp <;> omega)).other _ _ (by simp <;> omega)).other _ _ (by simp <;> omega)).set 0 _).set 1 _).ext (dr _)
    clear hw5 k1_0 f1_0 k1_1 f1_1 k2_0 f2_0 k2_1 f2_1 k3_0 f3_0 k3_1 f3_1 z1 z2 z3
    obtain ⟨k1_0, k1_1, f1_0, f1_1⟩ := box2 E1 (Ext.refl _)
    obtain ⟨k2_0, k2_1, f2_0, f2_1⟩ := box2 E2' (Ext.refl _)
    obtain ⟨k3_0, k3_1, f3_0, f3_1⟩ := box2 E3 (Ext.refl _)
    have F3 : Fr W.heap.size a3 := hf3.mono (by rw [Z0.out]; omega)
    have F4 : Fr W.heap.size a4 := hf4.mono (by rw [Z0.out]; omega)
    have fin : ∀ w4, Touch w.heap.size W.heap.size w3 w4 → FloorOf (mkRat (sgn s n) 0) w (.returned (.tuple #[.agg #[.bool (decide (X < 0)), .slice a3 (len X.natAbs) c3], .agg #[.bool (decide (Y < 0)), .slice a4 (len Y.natAbs) c4], .agg #[.bool false, .slice e1 1 1]])) w4 := by
      intro w4 t4
      have ef1 : (mkRat (sgn s n) 0).floor = X := by rw [Rat.mkRat_zero, ← HX.out]; rfl
      have e2 : Y = 0 ↔ (((mkRat (sgn s n) 0).floor : Int) : Rat) = mkRat (sgn s n) 0 := by rw [Rat.mkRat_zero, ← HY.out]; constructor <;> (intro _; rfl)
      refine ⟨Y, a3, c3, a4, c4, e1, 1, 1, by rw [ef1], by rw [ef1]; exact hr3.touch t4 F3.out, F3.mono x0.size, hr4.touch t4 F4.out, F4.mono x0.size, e2, (E2.trans hx3).of_touch t4⟩
    exact bodyPost_ret (by simp [results, Tryz.results149, go_sem, k1_0, k1_1, k2_0, k2_1, k3_0, k3_1]) rfl (fin _ (T4.trans T5))

set_option maxHeartbeats 1000000 in
/-- rational.Floor. -/
theorem rat_Floor (w : World) (s : Bool) (a b : Option Addr) (k c j d n m : Nat) (h : Raw w a k c n) (g : Raw w b j d m) (b1 : len n < 100000000) (b2 : len m < 100000000) :
    Calls Tryz.prog 84 #[.agg #[.bool s, .slice a k c, .slice b j d]] w (NewInt (mkRat (sgn s n) m).floor w) := by
  go_enter Tryz.func84, Tryz.ntmps84
  go_wp2_with fail
  obtain ⟨W, hW, x0, Z0, A0, A1⟩ := boxes2 w 55 [.bool s, .slice a k c, .slice b j d] 53 [.bool false, .slice none 0 0]
  rw [← hW]
  clear hW
  obtain ⟨k0_0, k0_1, k0_2, f0_0, f0_1, f0_2⟩ := box3 A0 (Ext.refl _)
  have z0 := (A0.ext (Ext.refl _)).lt
  obtain ⟨k1_0, k1_1, f1_0, f1_1⟩ := box2 A1 (Ext.refl _)
  have z1 := (A1.ext (Ext.refl _)).lt
  refine (rat_floor _ _ _ _ _ _ _ _ _ _ (h.ext x0) (g.ext x0) b1 b2).mono ?_
  rintro e w1 ⟨r, a1, c1, a2, c2, a3, k3, c3, rfl, hr1, hf1, hr2, hf2, _, hx1⟩
  obtain ⟨k0_0, k0_1, k0_2, f0_0, f0_1, f0_2⟩ := box3 A0 hx1
  have z0 := (A0.ext hx1).lt
  obtain ⟨k1_0, k1_1, f1_0, f1_1⟩ := box2 A1 hx1
  have z1 := (A1.ext hx1).lt
  go_wp2
  have T : Touch w.heap.size W.heap.size w1 ((w1.setCell ⟨w.heap.size + 1, 0, none⟩ (.bool (decide ((mkRat (sgn s n) m).floor < 0)))).setCell ⟨w.heap.size + 1, 1, none⟩ (.slice a1 (len (mkRat (sgn s n) m).floor.natAbs) c1)) := Touch.two _ (by omega) (by rw [Z0.out]; omega) _ _
  refine bodyPost_ret (v := .agg #[.bool (decide ((mkRat (sgn s n) m).floor < 0)), .slice a1 (len (mkRat (sgn s n) m).floor.natAbs) c1]) (by simp [results, Tryz.results84, go_sem, *]) rfl ?_
  exact ⟨a1, c1, rfl, (hr1.touch T hf1.out).ext ((((Ext.refl _).alloc _).alloc _).alloc _), hf1.mono x0.size, (((x0.touch hx1 T).alloc _).alloc _).alloc _⟩

end Go.Proofs.YtgihpfkjpfanmaaGreat

/- Sizes of rational numbers; slices of rational numbers in memory. -/
namespace Go.Proofs.YtgihpfkjpfanmaaGreat
open Go.RowKit

/-- The greater number of limbs of numerator and denominator. -/
def rsz (q : Rat) : Nat := max (len q.num.natAbs) (len q.den)
theorem rsz_num (q : Rat) : len q.num.natAbs ≤ rsz q := Nat.le_max_left _ _
theorem rsz_den (q : Rat) : len q.den ≤ rsz q := Nat.le_max_right _ _
theorem rsz_mkRat (x : Int) (y : Nat) : rsz (mkRat x y) ≤ max (max (len x.natAbs) (len y)) 1 := by
  unfold rsz
  by_cases h : 0 < y
  · rw [mkRat_num_natAbs _ _ h, mkRat_den' _ _ h]
    have h1 := len_mono (Nat.div_le_self x.natAbs (Nat.gcd y x.natAbs))
    have h2 := len_mono (Nat.div_le_self y (Nat.gcd y x.natAbs))
    omega
  · obtain rfl : y = 0 := by omega
    rw [Rat.mkRat_zero]; show max (len 0) (len 1) ≤ _; rw [len_zero, len1]; omega
theorem rsz_neg (q : Rat) : rsz (-q) = rsz q := by unfold rsz; rw [Rat.neg_num, Rat.neg_den, Int.natAbs_neg]
theorem rsz_add (p q : Rat) : rsz (p + q) ≤ rsz p + rsz q + 1 := by
  rw [Rat.add_def']
  refine Nat.le_trans (rsz_mkRat _ _) ?_
  have h1 := len_intAdd (p.num * q.den) (q.num * p.den)
  rw [Int.natAbs_mul, Int.natAbs_mul, Int.natAbs_natCast, Int.natAbs_natCast] at h1
  have h2 := len_mul p.num.natAbs q.den
  have h3 := len_mul q.num.natAbs p.den
  have h4 := len_mul p.den q.den
  have a1 := rsz_num p; have a2 := rsz_den p; have a3 := rsz_num q; have a4 := rsz_den q
  omega
theorem rsz_sub (p q : Rat) : rsz (p - q) ≤ rsz p + rsz q + 1 := by
  rw [Rat.sub_eq_add_neg]; have := rsz_add p (-q); rw [rsz_neg] at this; exact this
theorem rsz_mul (p q : Rat) : rsz (p * q) ≤ rsz p + rsz q + 1 := by
  rw [Rat.mul_def']
  refine Nat.le_trans (rsz_mkRat _ _) ?_
  rw [Int.natAbs_mul]
  have h2 := len_mul p.num.natAbs q.num.natAbs
  have h4 := len_mul p.den q.den
  have a1 := rsz_num p; have a2 := rsz_den p; have a3 := rsz_num q; have a4 := rsz_den q
  omega
theorem rsz_inv (q : Rat) : rsz q⁻¹ ≤ rsz q + 1 := by
  unfold rsz
  rw [Rat.num_inv, Rat.den_inv, Int.natAbs_mul, Int.natAbs_natCast]
  have h1 : q.num.sign.natAbs ≤ 1 := by
    rcases Int.lt_trichotomy q.num 0 with h | h | h
    · rw [Int.sign_eq_neg_one_of_neg h]; decide
    · rw [h]; decide
    · rw [Int.sign_eq_one_of_pos h]; decide
  have h2 : len (q.num.sign.natAbs * q.den) ≤ len q.den := len_mono (by
    have := Nat.mul_le_mul_right q.den h1; omega)
  split
  · rw [len1]; omega
  · omega
theorem rsz_div (p q : Rat) : rsz (p / q) ≤ rsz p + rsz q + 2 := by
  rw [Rat.div_def]; have h1 := rsz_mul p q⁻¹; have h2 := rsz_inv q; omega
theorem rsz_int (z : Int) : rsz (z : Rat) = max (len z.natAbs) 1 := by
  unfold rsz; rw [Rat.num_intCast, Rat.den_intCast, len1]
theorem len_natAbs_i64 {z : Int} (h1 : -9223372036854775808 ≤ z) (h2 : z ≤ 9223372036854775807) : len z.natAbs ≤ 2 := len_le_two.2 (by omega)

/-- A rational number as it lies in three cells. -/
structure RVal where
  s : Bool
  a : Option Addr
  k : Nat
  c : Nat
  b : Option Addr
  j : Nat
  d : Nat
def RVal.cells (r : RVal) : List Value := [.bool r.s, .slice r.a r.k r.c, .slice r.b r.j r.d]

/-- The cells r hold the rational number q; numerator and denominator have at most L limbs. -/
def IsRat (w : World) (r : RVal) (q : Rat) (L : Nat) : Prop := ∃ n m, Raw w r.a r.k r.c n ∧ Raw w r.b r.j r.d m ∧ q = mkRat (sgn r.s n) m ∧ len n ≤ L ∧ len m ≤ L

theorem IsRat.ext {w w' : World} {r : RVal} {q : Rat} {L : Nat} (h : IsRat w r q L) (e : Ext w w') : IsRat w' r q L := by
  obtain ⟨n, m, h1, h2, h3⟩ := h; exact ⟨n, m, h1.ext e, h2.ext e, h3⟩
theorem IsRat.mono {w : World} {r : RVal} {q : Rat} {L L' : Nat} (h : IsRat w r q L) (hl : L ≤ L') : IsRat w r q L' := by
  obtain ⟨n, m, h1, h2, h3, h4, h5⟩ := h; exact ⟨n, m, h1, h2, h3, by omega, by omega⟩
theorem IsRat.rsz {w : World} {r : RVal} {q : Rat} {L : Nat} (h : IsRat w r q L) : rsz q ≤ max L 1 := by
  obtain ⟨n, m, h1, h2, rfl, h4, h5⟩ := h
  have := rsz_mkRat (sgn r.s n) m
  rw [sgn_natAbs] at this
  omega

/-- What NewRat says of the cells. -/
theorem NewRat.isRat {q : Rat} {w w' : World} {e : Ending} (h : NewRat q w e w') : ∃ r : RVal, e = .returned (.agg #[.bool r.s, .slice r.a r.k r.c, .slice r.b r.j r.d]) ∧ IsRat w' r q (Go.Proofs.YtgihpfkjpfanmaaGreat.rsz q) ∧ Fr w.heap.size r.a ∧ Fr w.heap.size r.b ∧ Ext w w' := by
  obtain ⟨a, c, a', c', he, hr, hf, hr', hf', hx⟩ := h
  refine ⟨⟨decide (q.num < 0), a, len q.num.natAbs, c, a', len q.den, c'⟩, he, ⟨_, _, hr, hr', ?_, rsz_num q, rsz_den q⟩, hf, hf', hx⟩
  rw [sgn_num, Rat.mkRat_self]

/-- The cells r hold the rational number q in canonical form, in blocks from B on. -/
structure IsCan (w : World) (r : RVal) (q : Rat) (B : Nat) : Prop where
  s : r.s = decide (q.num < 0)
  k : r.k = len q.num.natAbs
  j : r.j = len q.den
  num : Raw w r.a r.k r.c q.num.natAbs
  den : Raw w r.b r.j r.d q.den
  fa : Fr B r.a
  fb : Fr B r.b
theorem IsCan.isRat {w : World} {r : RVal} {q : Rat} {B : Nat} (h : IsCan w r q B) : IsRat w r q (Go.Proofs.YtgihpfkjpfanmaaGreat.rsz q) :=
  ⟨_, _, h.num, h.den, by rw [h.s, sgn_num, Rat.mkRat_self], rsz_num q, rsz_den q⟩
theorem IsCan.ext {w w' : World} {r : RVal} {q : Rat} {B : Nat} (h : IsCan w r q B) (e : Ext w w') : IsCan w' r q B := ⟨h.s, h.k, h.j, h.num.ext e, h.den.ext e, h.fa, h.fb⟩
theorem IsCan.mono {w : World} {r : RVal} {q : Rat} {B B' : Nat} (h : IsCan w r q B) (e : B' ≤ B) : IsCan w r q B' := ⟨h.s, h.k, h.j, h.num, h.den, h.fa.mono e, h.fb.mono e⟩
theorem IsCan.setCell {w : World} {r : RVal} {q : Rat} {B : Nat} (h : IsCan w r q B) (p : Addr) (v : Value) (hp : p.block < B) : IsCan (w.setCell p v) r q B :=
  ⟨h.s, h.k, h.j, h.num.setCell _ _ (h.fa.ne hp), h.den.setCell _ _ (h.fb.ne hp), h.fa, h.fb⟩
theorem NewRat.isCan {q : Rat} {w w' : World} {e : Ending} (h : NewRat q w e w') : ∃ r : RVal, e = .returned (.agg #[.bool r.s, .slice r.a r.k r.c, .slice r.b r.j r.d]) ∧ IsCan w' r q w.heap.size ∧ Ext w w' := by
  obtain ⟨a, c, a', c', he, hr, hf, hr', hf', hx⟩ := h
  exact ⟨⟨decide (q.num < 0), a, len q.num.natAbs, c, a', len q.den, c'⟩, he, ⟨rfl, rfl, rfl, hr, hr', hf, hf'⟩, hx⟩
theorem IsCan.newRat {w w' : World} {r : RVal} {q : Rat} (h : IsCan w' r q w.heap.size) (hx : Ext w w') : NewRat q w (.returned (.agg #[.bool r.s, .slice r.a r.k r.c, .slice r.b r.j r.d])) w' := by
  refine ⟨r.a, r.c, r.b, r.d, by rw [h.s, h.k, h.j], ?_, h.fa, ?_, h.fb, hx⟩
  · have := h.num; rwa [h.k] at this
  · have := h.den; rwa [h.j] at this

/-- The slice '.slice a rs.length c' of rational numbers holds rs, with the values qs. -/
structure Rats (w : World) (a : Option Addr) (c : Nat) (rs : List RVal) (qs : List Rat) (L : Nat) : Prop where
  len : qs.length = rs.length
  le : rs.length ≤ c
  cap : c ≤ 9223372036854775807
  short : rs.length ≤ 1099511627776
  cell : ∀ i (h : i < rs.length), ∃ b o, a = some ⟨b, o, none⟩ ∧ w.cell? ⟨b, o + i * 3, none⟩ = some (.bool rs[i].s) ∧ w.cell? ⟨b, o + i * 3 + 1, none⟩ = some (.slice rs[i].a rs[i].k rs[i].c) ∧ w.cell? ⟨b, o + i * 3 + 2, none⟩ = some (.slice rs[i].b rs[i].j rs[i].d)
  num : ∀ i (h : i < rs.length), IsRat w rs[i] (qs[i]'(by omega)) L

theorem Rats.ext {w w' : World} {a : Option Addr} {c : Nat} {rs : List RVal} {qs : List Rat} {L : Nat} (h : Rats w a c rs qs L) (e : Ext w w') : Rats w' a c rs qs L :=
  ⟨h.len, h.le, h.cap, h.short, fun i hi => by
    obtain ⟨b, o, ha, h0, h1, h2⟩ := h.cell i hi
    exact ⟨b, o, ha, cell_ext e h0, cell_ext e h1, cell_ext e h2⟩, fun i hi => (h.num i hi).ext e⟩
theorem Rats.at {w : World} {a : Option Addr} {c : Nat} {rs : List RVal} {qs : List Rat} {L : Nat} (h : Rats w a c rs qs L) (h0 : 0 < rs.length) : ∃ b o, a = some ⟨b, o, none⟩ := by
  obtain ⟨b, o, ha, _⟩ := h.cell 0 h0; exact ⟨b, o, ha⟩

end Go.Proofs.YtgihpfkjpfanmaaGreat

/- Contract of rational.Sum. -/
namespace Go.Proofs.YtgihpfkjpfanmaaGreat
open Go.RowKit

/-- The sum of a list. -/
def qsum (l : List Rat) : Rat := l.foldl (· + ·) 0
theorem qsum_take {l : List Rat} {i : Nat} (h : i < l.length) : qsum (l.take (i + 1)) = qsum (l.take i) + l[i] := by
  unfold qsum; rw [List.take_succ_eq_append_getElem h, List.foldl_append]; rfl

set_option maxHeartbeats 2000000 in
/-- rational.Sum. -/
theorem rat_Sum (w : World) (a : Option Addr) (c : Nat) (rs : List RVal) (qs : List Rat) (L : Nat) (h : Rats w a c rs qs L) (hb : rs.length * (L + 2) + L + 1 < 100000000) :
    Calls Tryz.prog 82 #[.slice a rs.length c] w (NewRat (qsum qs) w) := by
  have hle := h.le
  have hcap := h.cap
  have hsh := h.short
  go_enter Tryz.func82, Tryz.ntmps82
  go_wp2_with fail
  obtain ⟨W, hW, x0, Z0, A0⟩ := boxes1 w 55 [.bool false, .slice none 0 0, .slice none 0 0]
  rw [← hW]
  clear hW
  obtain ⟨k0_0, k0_1, k0_2, f0_0, f0_1, f0_2⟩ := box3 A0 (Ext.refl _)
  have z0 := (A0.ext (Ext.refl _)).lt
  refine (rat_FromInt _ _ (by decide) (by decide)).mono ?_
  intro e w1 hN
  obtain ⟨r1, rfl, hr1, hx1⟩ := hN.isCan
  obtain ⟨k0_0, k0_1, k0_2, f0_0, f0_1, f0_2⟩ := box3 A0 hx1
  have z0 := (A0.ext hx1).lt
  go_wp2
  obtain ⟨w2, hw2⟩ : ∃ w2, w2 = w1.alloc (Obj.cells #[.bool r1.s, .slice r1.a r1.k r1.c, .slice r1.b r1.j r1.d] 55) := ⟨_, rfl⟩
  rw [← hw2]
  have E2 : Ext w w2 := by rw [hw2]; exact (x0.trans hx1).alloc _
  have P2 : Arr w2 w1.heap.size 55 r1.cells := by rw [hw2]; exact Arr.alloc _ _ _
  have R2 : IsCan w2 r1 (qsum (qs.take 0)) (w.heap.size + 1) := by rw [hw2, ← Z0.out]; exact hr1.ext ((Ext.refl _).alloc _)
  have Q2 : rsz (qsum (qs.take 0)) ≤ 2 := by show rsz (((0 : Int) : Rat)) ≤ 2; rw [rsz_int]; decide
  have C2 : Arr w2 w.heap.size 55 [.bool false, .slice none 0 0, .slice none 0 0] := by rw [hw2]; exact (A0.ext hx1).ext ((Ext.refl _).alloc _)
  have S1 : w.heap.size < w1.heap.size := z0
  clear hw2 k0_0 k0_1 k0_2 f0_0 f0_1 f0_2 z0 hr1 hN
  go_loopw [9] (fun ii wr => ∃ (i : Nat) (r : RVal), i ≤ rs.length ∧ Hid (Arr wr w1.heap.size 55 r.cells) ∧ IsCan wr r (qsum (qs.take i)) (w.heap.size + 1) ∧ Hid (rsz (qsum (qs.take i)) ≤ i * (L + 2) + 2) ∧ Hid (Arr wr w.heap.size 55 [.bool false, .slice none 0 0, .slice none 0 0]) ∧ Ext w wr ∧ ii = .int .i64 i) (fun ii _ => rs.length - (intOf ii).toNat)
  case atStart => exact ⟨0, r1, Nat.zero_le _, P2, R2, Nat.le_trans Q2 (by omega), C2, E2, rfl⟩
  case round =>
    obtain ⟨i, r, hi, hP, hR, hS, hC, hE, rfl⟩ := hrel
    by_cases hlt : i < rs.length
    · have hq := h.ext hE
      obtain ⟨b, o, rfl⟩ := h.at (by omega)
      obtain ⟨b', o', e', c0, c1, c2⟩ := hq.cell i hlt
      cases e'
      obtain ⟨n', m', g1, g2, gq, gl1, gl2⟩ := hq.num i hlt
      obtain ⟨n, m, f1, f2, fq, fl1, fl2⟩ := hR.isRat.mono hS.out
      have hmul : i * (L + 2) + (L + 2) ≤ rs.length * (L + 2) := by
        rw [← Nat.succ_mul]; exact Nat.mul_le_mul_right _ hlt
      generalize rs[i] = y at *
      have FQ := Lib.hid fq; have GQ := Lib.hid gq; clear fq gq
      obtain ⟨p0, p1, p2, p3, p4, p5⟩ := box3 hP.out (Ext.refl _)
      have pz := hP.out.lt
      have cz := hC.out.lt
      go_wp2_with fail
      refine (rat_Add _ _ _ _ _ _ _ _ _ _ (f1.ext ((Ext.refl _).alloc _)) (f2.ext ((Ext.refl _).alloc _)) _ _ _ _ _ _ _ _ _ (g1.ext ((Ext.refl _).alloc _)) (g2.ext ((Ext.refl _).alloc _)) (by omega) (by omega) (by omega) (by omega)).mono ?_
      intro e w3 hN
      rw [← FQ.out, ← GQ.out] at hN
      obtain ⟨r3, rfl, hr3, hx3⟩ := hN.isCan
      obtain ⟨p0, p1, p2, p3, p4, p5⟩ := box3 hP.out (((Ext.refl _).alloc _).trans hx3)
      have pz3 := (hP.out.ext (((Ext.refl _).alloc _).trans hx3)).lt
      have hP3 := hP.out.ext (((Ext.refl _).alloc _).trans hx3)
      have hC3 := hC.out.ext (((Ext.refl _).alloc _).trans hx3)
      have szq : rsz (qsum (qs.take i) + qs[i]'(by rw [h.len]; exact hlt)) ≤ (i + 1) * (L + 2) + 2 := by
        have a1 := rsz_add (qsum (qs.take i)) (qs[i]'(by rw [h.len]; exact hlt))
        have a2 := hS.out
        have a3 := IsRat.rsz ⟨n', m', g1, g2, GQ.out, gl1, gl2⟩
        rw [Nat.succ_mul]; omega
      have SZ := Lib.hid szq; clear szq
      have hsz : w1.heap.size < (wr.alloc (Obj.cells #[.bool y.s, .slice y.a y.k y.c, .slice y.b y.j y.d] 55)).heap.size := by simp; omega
      go_wp2
      go_roundw
      case rel =>
        refine ⟨i + 1, r3, by omega, ?_, ?_, ?_, ?_, Ext.set3 ((hE.alloc _).trans hx3) (by omega) _ _ _, by go_num⟩
        · exact (((hP3.set 0 _).set 1 _).set 2 _)
        · rw [qsum_take (by rw [h.len]; exact hlt)]
          exact (((hr3.setCell _ _ hsz).setCell _ _ hsz).setCell _ _ hsz).mono (by simp; omega)
        · rw [qsum_take (by rw [h.len]; exact hlt)]; exact SZ.out
        · exact ((hC3.other _ _ (by simp; omega)).other _ _ (by simp; omega)).other _ _ (by simp; omega)
      case measure => simp [intOf]; omega
    · obtain rfl : i = rs.length := by omega
      rw [show qs.take rs.length = qs from List.take_of_length_le (by rw [h.len]; exact Nat.le_refl _)] at hR
      obtain ⟨p0, p1, p2, p3, p4, p5⟩ := box3 hP.out (Ext.refl _)
      obtain ⟨q0, q1, q2, q3, q4, q5⟩ := box3 hC.out (Ext.refl _)
      go_wp2
      exact bodyPost_ret (by simp [results, Tryz.results82, go_sem, *]) rfl (IsCan.newRat ((((hR.setCell _ _ (Nat.lt_succ_self _)).setCell _ _ (Nat.lt_succ_self _)).setCell _ _ (Nat.lt_succ_self _)).mono (Nat.le_succ _)) (Ext.set3 hE (Nat.le_refl _) _ _ _))
end Go.Proofs.YtgihpfkjpfanmaaGreat

/- make of a slice of rational numbers: elements of three cells. -/
namespace Go.Proofs.YtgihpfkjpfanmaaGreat
open Go.RowKit

def zero3 : List Value := [.bool false, .slice none 0 0, .slice none 0 0]
def zeros3 : Nat → List Value
  | 0 => []
  | n + 1 => zero3 ++ zeros3 n

theorem zeros3_length (n : Nat) : (zeros3 n).length = n * 3 := by
  induction n with
  | zero => rfl
  | succ n ih => unfold zeros3; rw [List.length_append, ih]; simp [zero3]; omega

theorem zeros3_get (n i : Nat) (h : i < n * 3) : (zeros3 n)[i]? = zero3[i % 3]? := by
  induction n generalizing i with
  | zero => omega
  | succ n ih =>
    unfold zeros3
    by_cases hi : i < 3
    · rw [List.getElem?_append_left (by simpa [zero3] using hi), Nat.mod_eq_of_lt hi]
    · rw [List.getElem?_append_right (by simp [zero3]; omega)]
      have : zero3.length = 3 := rfl
      rw [this, ih (i - 3) (by omega)]
      congr 1; omega

theorem madeCells_three (n : Nat) : madeCells zero3.toArray (n * 3) = (zeros3 n).toArray := by
  apply Array.ext_getElem?
  intro i
  unfold madeCells
  by_cases h : i < n * 3
  · rw [Array.getElem?_map, Array.getElem?_range, List.getElem?_toArray, zeros3_get n i h]
    simp only [h, if_true, Option.map_some]
    have h3 : i % 3 < 3 := Nat.mod_lt _ (by decide)
    have hz : zero3.toArray.size = 3 := rfl
    rw [hz]
    generalize i % 3 = k at h3 ⊢
    match k, h3 with
    | 0, _ => rfl
    | 1, _ => rfl
    | 2, _ => rfl
  · rw [Array.getElem?_eq_none (by simp; omega), List.getElem?_toArray, List.getElem?_eq_none (by rw [zeros3_length]; omega)]

theorem wpList_make_three {P : Program} (w : World) {ops : Array Oper} {rest : List Oper} {o : Oper} {a : Act} {Q : Exit → Act → World → Prop}
    (hg : o.guard = none) (l c : Operand) (t : TypeId) (hop : o.op = Op.makeSlice t l c)
    (e : TypeId) (z : Value) (bytes : Nat) (h1 : P.underlying t = some (.slice e)) (h2 : (P.info? e).map (fun i => (i.zero, i.size, i.bytes)) = some (some z, 3, bytes)) (h3 : z.cells = zero3.toArray)
    (L C : Int) (n : Nat) (hl : a.eval l = .int .i64 L) (hc : a.eval c = .int .i64 C) (hL : L = (n : Int)) (hC : C = (n : Int)) (b2 : bytes * n ≤ 281474976710656) (b3 : n ≤ 9223372036854775807)
    (hK : ∀ w', Hid (Arr w' w.heap.size e (zeros3 n)) → Ext w w' → Hid (w'.heap.size = w.heap.size + 1) → wpList P ops Q rest (a.put o.dst (.slice (some ⟨w.heap.size, 0, none⟩) n n)) w') :
    wpList P ops Q (o :: rest) a w := by
  refine wpList_plain hg fun K hK' => ?_
  obtain ⟨i, h2, h4, h5, h6⟩ := info_parts h2
  have hrun := run_make (P := P) w t e i z h1 h2 h4 .i64 .i64 n n (by omega) (Int.le_refl _) (by rw [h6, ← Int.natCast_mul]; omega) (by omega)
  subst hL
  subst hC
  unfold Oper.wp
  simp only [Int.toNat_natCast, h5, h3, madeCells_three] at hrun
  simp [execOp, hop, hl, hc, hrun, Result.andThen]
  exact hK' _ _ (hK _ (Arr.alloc _ _ _) ((Ext.refl _).alloc _) (show _ = _ by simp))

theorem Tryz.info_rat : (Tryz.prog.info? 55).map (fun i => (i.zero, i.size, i.bytes)) = some (some (.agg zero3.toArray), 3, 56) := by kernel_rfl
theorem Tryz.info_int : (Tryz.prog.info? 3).map (fun i => (i.zero, i.size, i.bytes)) = some (some (.int .i64 0), 1, 8) := by kernel_rfl

/-- One element of three cells is filled. -/
theorem fill3 (A : List Value) (m : Nat) (x y z : Value) : (((A ++ zeros3 (m + 1)).set A.length x).set (A.length + 1) y).set (A.length + 2) z = (A ++ [x, y, z]) ++ zeros3 m := by
  have e : zeros3 (m + 1) = .bool false :: .slice none 0 0 :: .slice none 0 0 :: zeros3 m := rfl
  rw [e]
  generalize zeros3 m = Z
  rw [List.set_append_right _ _ (by omega), Nat.sub_self, List.set_cons_zero, List.set_append_right _ _ (by omega), Nat.add_sub_cancel_left, List.set_cons_succ, List.set_cons_zero, List.set_append_right _ _ (by omega), Nat.add_sub_cancel_left, List.set_cons_succ, List.set_cons_succ, List.set_cons_zero]
  simp

theorem cell_three {w : World} {b x : Nat} {p : Addr} {u v0 v1 v2 : Value} (h : w.cell? p = some u) (hb : p.block ≠ b) : (((w.setCell ⟨b, x, none⟩ v0).setCell ⟨b, x + 1, none⟩ v1).setCell ⟨b, x + 2, none⟩ v2).cell? p = some u := by
  rw [World.cell?_setCell_other _ _ _ _ (by intro e; exact hb (by rw [← e])), World.cell?_setCell_other _ _ _ _ (by intro e; exact hb (by rw [← e])), World.cell?_setCell_other _ _ _ _ (by intro e; exact hb (by rw [← e])), h]

/-- Integers as they lie in a block. -/
def i64s (l : List Int) : List Value := l.map (Value.int .i64)
theorem i64s_length (l : List Int) : (i64s l).length = l.length := by simp [i64s]
theorem i64s_get (l : List Int) (i : Nat) (h : i < l.length) : (i64s l)[i]? = some (.int .i64 l[i]) := by simp [i64s, h]
theorem i64s_next (A : List Int) (m : Nat) (x : Int) : (i64s (A ++ List.replicate (m + 1) 0)).set A.length (.int .i64 x) = i64s ((A ++ [x]) ++ List.replicate m 0) := by
  unfold i64s
  rw [← List.map_set, List.set_append_right _ _ (by omega), Nat.sub_self, List.replicate_succ, List.set_cons_zero, List.append_assoc]; rfl
theorem i64s_zeros (n : Nat) : List.replicate n (Value.int .i64 0) = i64s (List.replicate n 0) := by simp [i64s]

/-- The cells of rational numbers. -/
def ratCells (l : List RVal) : List Value := l.flatMap RVal.cells
theorem ratCells_length (l : List RVal) : (ratCells l).length = l.length * 3 := by
  induction l with
  | nil => rfl
  | cons r l ih => simp only [ratCells, List.flatMap_cons, List.length_append, RVal.cells, List.length_cons, List.length_nil] at *; omega
theorem ratCells_snoc (l : List RVal) (r : RVal) : ratCells (l ++ [r]) = ratCells l ++ r.cells := by simp [ratCells]
theorem ratCells_get (l : List RVal) (i k : Nat) (h : i < l.length) (hk : k < 3) : (ratCells l)[i * 3 + k]? = (l[i].cells)[k]? := by
  induction l generalizing i with
  | nil => simp at h
  | cons r l ih =>
    have e : ratCells (r :: l) = r.cells ++ ratCells l := by simp [ratCells]
    rw [e]
    have hc : r.cells.length = 3 := rfl
    cases i with
    | zero => rw [List.getElem?_append_left (by omega)]; simp
    | succ i =>
      rw [List.getElem?_append_right (by omega), hc, show (i + 1) * 3 + k - 3 = i * 3 + k from by omega, ih i (by simpa using h)]
      simp
end Go.Proofs.YtgihpfkjpfanmaaGreat
