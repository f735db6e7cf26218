/- Texts of the proof: Int1, Int2, Rat1, Rat2, Rat3, Rat4. -/
import Derived.Test.YtgihpfkjpfanmaaGreatGC
import Derived.Test.YtgihpfkjpfanmaaGreatGD
/- Contracts of the program's package integer. -/
namespace Go.Proofs.YtgihpfkjpfanmaaGreat
open Go.RowKit

/-- The integer of a sign and a magnitude. -/
def sgn (s : Bool) (n : Nat) : Int := if s then -(n : Int) else n
theorem sgn_natAbs (s : Bool) (n : Nat) : (sgn s n).natAbs = n := by unfold sgn; cases s <;> simp
theorem sgn_neg (s : Bool) (n : Nat) : decide (sgn s n < 0) = (s && decide (0 < n)) := by
  unfold sgn
  cases s
  · simp
  · simp
theorem sgn_false (n : Nat) : sgn false n = n := rfl
theorem sgn_true (n : Nat) : sgn true n = -(n : Int) := rfl
theorem sgn_zero (s : Bool) : sgn s 0 = 0 := by cases s <;> rfl
theorem sgn_not (s : Bool) (n : Nat) : sgn (!s) n = - sgn s n := by cases s <;> simp [sgn]

/-- A call returns a new integer z, canonical. -/
def NewInt (z : Int) (w : World) (e : Ending) (w' : World) : Prop := ∃ a c, e = .returned (.agg #[.bool (decide (z < 0)), .slice a (len z.natAbs) c]) ∧ Raw w' a (len z.natAbs) c z.natAbs ∧ Fr w.heap.size a ∧ Ext w w'

/-- integer.signed. -/
theorem int_signed (w : World) (s : Bool) (a : Option Addr) (k c : Nat) (_hk : k ≤ 1099511627776) :
    Calls Tryz.prog 207 #[.bool s, .slice a k c] w fun e w' => e = .returned (.agg #[.bool (s && decide (0 < k)), .slice a k c]) ∧ Ext w w' := by
  cases s
  · go_enter Tryz.func207, Tryz.ntmps207
    go_wp2
    exact bodyPost_ret (v := .agg #[.bool false, .slice a k c]) (by simp [results, Tryz.results207, go_sem]) rfl ⟨rfl, (Ext.refl _).alloc _⟩
  · by_cases h0 : 0 < k
    · have d0 : decide (0 < k) = true := by simp [h0]
      go_enter Tryz.func207, Tryz.ntmps207
      go_wp2
      exact bodyPost_ret (v := .agg #[.bool true, .slice a k c]) (by simp [results, Tryz.results207, go_sem]) rfl ⟨by simp [h0], (Ext.refl _).alloc _⟩
    · have d0 : decide (0 < k) = false := by simp [h0]
      go_enter Tryz.func207, Tryz.ntmps207
      go_wp2
      exact bodyPost_ret (v := .agg #[.bool false, .slice a k c]) (by simp [results, Tryz.results207, go_sem]) rfl ⟨by simp [h0], (Ext.refl _).alloc _⟩

/-- What signed makes of a new list of limbs. -/
theorem NewInt.of_signed {w w1 w2 : World} {s : Bool} {a : Option Addr} {c n : Nat} {e : Ending} (h : Raw w1 a (len n) c n) (hf : Fr w.heap.size a) (hx : Ext w w1)
    (he : e = .returned (.agg #[.bool (s && decide (0 < len n)), .slice a (len n) c]) ∧ Ext w1 w2) : NewInt (sgn s n) w e w2 := by
  obtain ⟨rfl, hx2⟩ := he
  refine ⟨a, c, ?_, ?_, hf, hx.trans hx2⟩
  · rw [sgn_natAbs, sgn_neg]; simp only [len_pos]
  · rw [sgn_natAbs]; exact h.ext hx2

theorem NewInt.touch {z : Int} {w W w2 w3 : World} {e : Ending} (h : NewInt z W e w2) (hW : Ext w W) (t : Touch w.heap.size W.heap.size w2 w3) : NewInt z w e w3 := by
  obtain ⟨a, c, he, hr, hf, hx⟩ := h
  exact ⟨a, c, he, hr.touch t hf.out, hf.mono hW.size, hW.touch hx t⟩

theorem sgn_mul (s t : Bool) (n m : Nat) : sgn (s != t) (n * m) = sgn s n * sgn t m := by
  cases s <;> cases t <;> simp [sgn, Int.neg_mul, Int.mul_neg]
theorem sgn_add (s : Bool) (n m : Nat) : sgn s (n + m) = sgn s n + sgn s m := by
  cases s <;> simp [sgn]; omega
theorem sgn_sub1 (s : Bool) (n m : Nat) (h : m ≤ n) : sgn s (n - m) = sgn s n + sgn (!s) m := by
  cases s <;> simp [sgn] <;> omega
theorem sgn_sub2 (s : Bool) (n m : Nat) (h : n ≤ m) : sgn (!s) (m - n) = sgn s n + sgn (!s) m := by
  cases s <;> simp [sgn] <;> omega

theorem wrap_neg (n : Nat) (h0 : 0 < n) (h : n ≤ 9223372036854775808) : IntKind.u64.wrap (-IntKind.u64.wrap (-(n : Int))) = (n : Int) := by
  rw [IntKind.wrap_u64, IntKind.wrap_u64]; omega

set_option maxHeartbeats 400000 in
/-- integer.FromInt. -/
theorem int_FromInt (w : World) (v : Int) (h1 : -9223372036854775808 ≤ v) (h2 : v ≤ 9223372036854775807) :
    Calls Tryz.prog 145 #[.int .i64 v] w (NewInt v w) := by
  by_cases h0 : v < 0
  · obtain ⟨n, rfl⟩ : ∃ n : Nat, v = -(n : Int) := ⟨v.natAbs, by omega⟩
    have e1 := wrap_neg n (by omega) (by omega)
    go_enter Tryz.func145, Tryz.ntmps145
    go_wp2_with fail
    obtain ⟨W, hW, x0, Z0, A0⟩ := boxes1 w 53 [.bool false, .slice none 0 0]
    rw [← hW]
    clear hW
    obtain ⟨k0_0, k0_1, f0_0, f0_1⟩ := box2 A0 (Ext.refl _)
    have z0 := (A0.ext (Ext.refl _)).lt
    refine (nat_FromUint64 _ _ (by omega)).mono ?_
    rintro e w1 ⟨a1, c1, rfl, hr1, hf1, hx1⟩
    obtain ⟨k0_0, k0_1, f0_0, f0_1⟩ := box2 A0 hx1
    have z0 := (A0.ext hx1).lt
    go_wp2_with fail
    refine (int_signed _ _ _ _ _ (by have := hr1.le; omega)).mono ?_
    rintro e w2 ⟨rfl, hx2⟩
    obtain ⟨k0_0, k0_1, f0_0, f0_1⟩ := box2 A0 (hx1.trans hx2)
    have z0 := (A0.ext (hx1.trans hx2)).lt
    have fin := NewInt.of_signed (s := true) hr1 hf1 hx1 ⟨rfl, hx2⟩
    go_wp2
    exact bodyPost_ret (by simp [results, Tryz.results145, go_sem, k0_0, k0_1]) rfl (NewInt.touch fin x0 (Touch.two _ (Nat.le_refl _) (by rw [Z0.out]; omega) _ _))
  · obtain ⟨n, rfl⟩ : ∃ n : Nat, v = (n : Int) := ⟨v.natAbs, by omega⟩
    have e1 : IntKind.u64.wrap (n : Int) = (n : Int) := by rw [IntKind.wrap_u64]; omega
    go_enter Tryz.func145, Tryz.ntmps145
    go_wp2_with fail
    obtain ⟨W, hW, x0, Z0, A0⟩ := boxes1 w 53 [.bool false, .slice none 0 0]
    rw [← hW]
    clear hW
    obtain ⟨k0_0, k0_1, f0_0, f0_1⟩ := box2 A0 (Ext.refl _)
    have z0 := (A0.ext (Ext.refl _)).lt
    refine (nat_FromUint64 _ _ (by omega)).mono ?_
    rintro e w1 ⟨a1, c1, rfl, hr1, hf1, hx1⟩
    obtain ⟨k0_0, k0_1, f0_0, f0_1⟩ := box2 A0 hx1
    have z0 := (A0.ext hx1).lt
    go_wp2_with fail
    refine (int_signed _ _ _ _ _ (by have := hr1.le; omega)).mono ?_
    rintro e w2 ⟨rfl, hx2⟩
    obtain ⟨k0_0, k0_1, f0_0, f0_1⟩ := box2 A0 (hx1.trans hx2)
    have z0 := (A0.ext (hx1.trans hx2)).lt
    have fin := NewInt.of_signed (s := false) hr1 hf1 hx1 ⟨rfl, hx2⟩
    go_wp2
    exact bodyPost_ret (by simp [results, Tryz.results145, go_sem, k0_0, k0_1]) rfl (NewInt.touch fin x0 (Touch.two _ (Nat.le_refl _) (by rw [Z0.out]; omega) _ _))

set_option maxHeartbeats 400000 in
/-- integer.Norm. -/
theorem int_Norm (w : World) (s : Bool) (a : Option Addr) (k c n : Nat) (h : Raw w a k c n) :
    Calls Tryz.prog 218 #[.agg #[.bool s, .slice a k c]] w (NewInt (sgn s n) w) := by
  go_enter Tryz.func218, Tryz.ntmps218
  go_wp2
  obtain ⟨W, hW, x0, Z0, A0, A1⟩ := boxes2 w 53 [.bool s, .slice a k c] 53 [.bool false, .slice none 0 0]
  rw [← hW]
  clear hW
  obtain ⟨k0_0, k0_1, f0_0, f0_1⟩ := box2 A0 (Ext.refl _)
  have z0 := (A0.ext (Ext.refl _)).lt
  obtain ⟨k1_0, k1_1, f1_0, f1_1⟩ := box2 A1 (Ext.refl _)
  have z1 := (A1.ext (Ext.refl _)).lt
  go_region_held3 (fun w' => w'.cell? ⟨w.heap.size, 0, none⟩ = some (.bool s) ∧ w'.cell? ⟨w.heap.size, 1, none⟩ = some (.slice a k c)) (first | exact ⟨k0_0, k0_1⟩ | (simp [go_sem, k0_0, k0_1])) (first
    | (go_at_call 212; refine (nat_Trim _ _ _ _ _ ((h.ext x0).ext (by exact (Ext.refl _).drew))).mono ?_; rintro e w1 ⟨a1, c1, rfl, hr1, hf1, hx1⟩; obtain ⟨k0_0, k0_1, f0_0, f0_1⟩ := box2 A0 (((Ext.refl _).drew).trans hx1); have z0 := (A0.ext (((Ext.refl _).drew).trans hx1)).lt; obtain ⟨k1_0, k1_1, f1_0, f1_1⟩ := box2 A1 (((Ext.refl _).drew).trans hx1); have z1 := (A1.ext (((Ext.refl _).drew).trans hx1)).lt)
    | (go_at_call 207; refine (int_signed _ _ _ _ _ (by have := hr1.le; omega)).mono ?_; rintro e w2 ⟨rfl, hx2⟩; obtain ⟨k0_0, k0_1, f0_0, f0_1⟩ := box2 A0 ((((Ext.refl _).drew).trans hx1).trans hx2); have z0 := (A0.ext ((((Ext.refl _).drew).trans hx1).trans hx2)).lt; obtain ⟨k1_0, k1_1, f1_0, f1_1⟩ := box2 A1 ((((Ext.refl _).drew).trans hx1).trans hx2); have z1 := (A1.ext ((((Ext.refl _).drew).trans hx1).trans hx2)).lt))
  have fin := NewInt.of_signed (s := s) hr1 hf1 hx1 ⟨rfl, hx2⟩
  go_wp2
  exact bodyPost_ret (by simp [results, Tryz.results218, go_sem, k1_0, k1_1]) rfl (NewInt.touch fin x0.drew (Touch.two _ (by omega) (by rw [World.drew, Z0.out]; omega) _ _))

set_option maxHeartbeats 400000 in
/-- integer.Neg. -/
theorem int_Neg (w : World) (s : Bool) (a : Option Addr) (k c n : Nat) (h : Raw w a k c n) :
    Calls Tryz.prog 147 #[.agg #[.bool s, .slice a k c]] w (NewInt (- sgn s n) w) := by
  rw [← sgn_not]
  go_enter Tryz.func147, Tryz.ntmps147
  go_wp2
  obtain ⟨W, hW, x0, Z0, A0, A1⟩ := boxes2 w 53 [.bool s, .slice a k c] 53 [.bool false, .slice none 0 0]
  rw [← hW]
  clear hW
  obtain ⟨k0_0, k0_1, f0_0, f0_1⟩ := box2 A0 (Ext.refl _)
  have z0 := (A0.ext (Ext.refl _)).lt
  obtain ⟨k1_0, k1_1, f1_0, f1_1⟩ := box2 A1 (Ext.refl _)
  have z1 := (A1.ext (Ext.refl _)).lt
  go_region_held3 (fun w' => w'.cell? ⟨w.heap.size, 0, none⟩ = some (.bool s) ∧ w'.cell? ⟨w.heap.size, 1, none⟩ = some (.slice a k c)) (first | exact ⟨k0_0, k0_1⟩ | (simp [go_sem, k0_0, k0_1])) (first
    | (go_at_call 212; refine (nat_Trim _ _ _ _ _ ((h.ext x0).ext (by exact (Ext.refl _).drew))).mono ?_; rintro e w1 ⟨a1, c1, rfl, hr1, hf1, hx1⟩; obtain ⟨k0_0, k0_1, f0_0, f0_1⟩ := box2 A0 (((Ext.refl _).drew).trans hx1); have z0 := (A0.ext (((Ext.refl _).drew).trans hx1)).lt; obtain ⟨k1_0, k1_1, f1_0, f1_1⟩ := box2 A1 (((Ext.refl _).drew).trans hx1); have z1 := (A1.ext (((Ext.refl _).drew).trans hx1)).lt)
    | (go_at_call 207; refine (int_signed _ _ _ _ _ (by have := hr1.le; omega)).mono ?_; rintro e w2 ⟨rfl, hx2⟩; obtain ⟨k0_0, k0_1, f0_0, f0_1⟩ := box2 A0 ((((Ext.refl _).drew).trans hx1).trans hx2); have z0 := (A0.ext ((((Ext.refl _).drew).trans hx1).trans hx2)).lt; obtain ⟨k1_0, k1_1, f1_0, f1_1⟩ := box2 A1 ((((Ext.refl _).drew).trans hx1).trans hx2); have z1 := (A1.ext ((((Ext.refl _).drew).trans hx1).trans hx2)).lt))
  have fin := NewInt.of_signed (s := !s) hr1 hf1 hx1 ⟨rfl, hx2⟩
  go_wp2
  exact bodyPost_ret (by simp [results, Tryz.results147, go_sem, k1_0, k1_1]) rfl (NewInt.touch fin x0.drew (Touch.two _ (by omega) (by rw [World.drew, Z0.out]; omega) _ _))

set_option maxHeartbeats 1000000 in
/-- integer.Mul. -/
theorem int_Mul (w : World) (s t : Bool) (a b : Option Addr) (k c k' c' n m : Nat) (h : Raw w a k c n) (h' : Raw w b k' c' m) (b1 : len n < 1000000000) (b2 : len m < 1000000000) :
    Calls Tryz.prog 134 #[.agg #[.bool s, .slice a k c], .agg #[.bool t, .slice b k' c']] w (NewInt (sgn s n * sgn t m) w) := by
  rw [← sgn_mul]
  go_enter Tryz.func134, Tryz.ntmps134
  go_wp2
  obtain ⟨W, hW, x0, Z0, A0, A1, A2⟩ := boxes3 w 53 [.bool s, .slice a k c] 53 [.bool t, .slice b k' c'] 53 [.bool false, .slice none 0 0]
  rw [← hW]
  clear hW
  obtain ⟨k0_0, k0_1, f0_0, f0_1⟩ := box2 A0 (Ext.refl _)
  have z0 := (A0.ext (Ext.refl _)).lt
  obtain ⟨k1_0, k1_1, f1_0, f1_1⟩ := box2 A1 (Ext.refl _)
  have z1 := (A1.ext (Ext.refl _)).lt
  obtain ⟨k2_0, k2_1, f2_0, f2_1⟩ := box2 A2 (Ext.refl _)
  have z2 := (A2.ext (Ext.refl _)).lt
  go_region_held3 (fun w' => w'.cell? ⟨w.heap.size, 0, none⟩ = some (.bool s) ∧ w'.cell? ⟨w.heap.size, 1, none⟩ = some (.slice a k c) ∧ w'.cell? ⟨w.heap.size + 1, 0, none⟩ = some (.bool t) ∧ w'.cell? ⟨w.heap.size + 1, 1, none⟩ = some (.slice b k' c')) (first | exact ⟨k0_0, k0_1, k1_0, k1_1⟩ | (simp [go_sem, k0_0, k0_1, k1_0, k1_1])) (first
    | (go_at_call 157; refine (nat_Mul _ _ _ _ _ _ _ _ _ ((h.ext x0).ext (by exact (Ext.refl _).drew)) ((h'.ext x0).ext (by exact (Ext.refl _).drew)) b1 b2).mono ?_; rintro e w1 ⟨a1, c1, rfl, hr1, hf1, hx1⟩; obtain ⟨k0_0, k0_1, f0_0, f0_1⟩ := box2 A0 (((Ext.refl _).drew).trans hx1); have z0 := (A0.ext (((Ext.refl _).drew).trans hx1)).lt; obtain ⟨k1_0, k1_1, f1_0, f1_1⟩ := box2 A1 (((Ext.refl _).drew).trans hx1); have z1 := (A1.ext (((Ext.refl _).drew).trans hx1)).lt; obtain ⟨k2_0, k2_1, f2_0, f2_1⟩ := box2 A2 (((Ext.refl _).drew).trans hx1); have z2 := (A2.ext (((Ext.refl _).drew).trans hx1)).lt)
    | (go_at_call 207; refine (int_signed _ _ _ _ _ (by have := hr1.le; omega)).mono ?_; rintro e w2 ⟨rfl, hx2⟩; obtain ⟨k0_0, k0_1, f0_0, f0_1⟩ := box2 A0 ((((Ext.refl _).drew).trans hx1).trans hx2); have z0 := (A0.ext ((((Ext.refl _).drew).trans hx1).trans hx2)).lt; obtain ⟨k1_0, k1_1, f1_0, f1_1⟩ := box2 A1 ((((Ext.refl _).drew).trans hx1).trans hx2); have z1 := (A1.ext ((((Ext.refl _).drew).trans hx1).trans hx2)).lt; obtain ⟨k2_0, k2_1, f2_0, f2_1⟩ := box2 A2 ((((Ext.refl _).drew).trans hx1).trans hx2); have z2 := (A2.ext ((((Ext.refl _).drew).trans hx1).trans hx2)).lt))
  have fin := NewInt.of_signed (s := s != t) hr1 hf1 hx1 ⟨rfl, hx2⟩
  go_wp2
  exact bodyPost_ret (by simp [results, Tryz.results134, go_sem, k2_0, k2_1]; cases s <;> cases t <;> rfl) rfl (NewInt.touch fin x0.drew (Touch.two _ (by omega) (by rw [World.drew, Z0.out]; omega) _ _))

set_option maxHeartbeats 1000000 in
/-- integer.Add, equal signs. -/
theorem int_Add_same (w : World) (s : Bool) (a b : Option Addr) (k c k' c' n m : Nat) (h : Raw w a k c n) (h' : Raw w b k' c' m) (b1 : len n < 1000000000) (b2 : len m < 1000000000) :
    Calls Tryz.prog 208 #[.agg #[.bool s, .slice a k c], .agg #[.bool s, .slice b k' c']] w (NewInt (sgn s n + sgn s m) w) := by
  rw [← sgn_add]
  go_enter Tryz.func208, Tryz.ntmps208
  go_wp2
  obtain ⟨W, hW, x0, Z0, A0, A1, A2⟩ := boxes3 w 53 [.bool s, .slice a k c] 53 [.bool s, .slice b k' c'] 53 [.bool false, .slice none 0 0]
  rw [← hW]
  clear hW
  obtain ⟨k0_0, k0_1, f0_0, f0_1⟩ := box2 A0 (Ext.refl _)
  have z0 := (A0.ext (Ext.refl _)).lt
  obtain ⟨k1_0, k1_1, f1_0, f1_1⟩ := box2 A1 (Ext.refl _)
  have z1 := (A1.ext (Ext.refl _)).lt
  obtain ⟨k2_0, k2_1, f2_0, f2_1⟩ := box2 A2 (Ext.refl _)
  have z2 := (A2.ext (Ext.refl _)).lt
  go_region_held3 (fun w' => w'.cell? ⟨w.heap.size, 0, none⟩ = some (.bool s) ∧ w'.cell? ⟨w.heap.size, 1, none⟩ = some (.slice a k c) ∧ w'.cell? ⟨w.heap.size + 1, 0, none⟩ = some (.bool s) ∧ w'.cell? ⟨w.heap.size + 1, 1, none⟩ = some (.slice b k' c')) (first | exact ⟨k0_0, k0_1, k1_0, k1_1⟩ | (simp [go_sem, k0_0, k0_1, k1_0, k1_1])) (first
    | (go_at_call 228; refine (nat_Add _ _ _ _ _ _ _ _ _ ((h.ext x0).ext (by exact (Ext.refl _).drew)) ((h'.ext x0).ext (by exact (Ext.refl _).drew)) b1 b2).mono ?_; rintro e w1 ⟨a1, c1, rfl, hr1, hf1, hx1⟩; obtain ⟨k0_0, k0_1, f0_0, f0_1⟩ := box2 A0 (((Ext.refl _).drew).trans hx1); have z0 := (A0.ext (((Ext.refl _).drew).trans hx1)).lt; obtain ⟨k1_0, k1_1, f1_0, f1_1⟩ := box2 A1 (((Ext.refl _).drew).trans hx1); have z1 := (A1.ext (((Ext.refl _).drew).trans hx1)).lt; obtain ⟨k2_0, k2_1, f2_0, f2_1⟩ := box2 A2 (((Ext.refl _).drew).trans hx1); have z2 := (A2.ext (((Ext.refl _).drew).trans hx1)).lt)
    | (go_at_call 207; refine (int_signed _ _ _ _ _ (by have := hr1.le; omega)).mono ?_; rintro e w2 ⟨rfl, hx2⟩; obtain ⟨k0_0, k0_1, f0_0, f0_1⟩ := box2 A0 ((((Ext.refl _).drew).trans hx1).trans hx2); have z0 := (A0.ext ((((Ext.refl _).drew).trans hx1).trans hx2)).lt; obtain ⟨k1_0, k1_1, f1_0, f1_1⟩ := box2 A1 ((((Ext.refl _).drew).trans hx1).trans hx2); have z1 := (A1.ext ((((Ext.refl _).drew).trans hx1).trans hx2)).lt; obtain ⟨k2_0, k2_1, f2_0, f2_1⟩ := box2 A2 ((((Ext.refl _).drew).trans hx1).trans hx2); have z2 := (A2.ext ((((Ext.refl _).drew).trans hx1).trans hx2)).lt))
  have fin := NewInt.of_signed (s := s) hr1 hf1 hx1 ⟨rfl, hx2⟩
  go_wp2
  exact bodyPost_ret (by simp [results, Tryz.results208, go_sem, k2_0, k2_1]) rfl (NewInt.touch fin x0.drew (Touch.two _ (by omega) (by rw [World.drew, Z0.out]; omega) _ _))

set_option maxHeartbeats 1000000 in
/-- integer.Add, different signs. -/
theorem int_Add_other (w : World) (s : Bool) (a b : Option Addr) (k c k' c' n m : Nat) (h : Raw w a k c n) (h' : Raw w b k' c' m) :
    Calls Tryz.prog 208 #[.agg #[.bool s, .slice a k c], .agg #[.bool (!s), .slice b k' c']] w (NewInt (sgn s n + sgn (!s) m) w) := by
  have hne : (s == !s) = false := by cases s <;> rfl
  by_cases hle : m ≤ n
  · rw [← sgn_sub1 s n m hle]
    go_enter Tryz.func208, Tryz.ntmps208
    go_wp2_with fail
    obtain ⟨W, hW, x0, Z0, A0, A1, A2⟩ := boxes3 w 53 [.bool s, .slice a k c] 53 [.bool (!s), .slice b k' c'] 53 [.bool false, .slice none 0 0]
    rw [← hW]
    clear hW
    obtain ⟨k0_0, k0_1, f0_0, f0_1⟩ := box2 A0 (Ext.refl _)
    have z0 := (A0.ext (Ext.refl _)).lt
    obtain ⟨k1_0, k1_1, f1_0, f1_1⟩ := box2 A1 (Ext.refl _)
    have z1 := (A1.ext (Ext.refl _)).lt
    obtain ⟨k2_0, k2_1, f2_0, f2_1⟩ := box2 A2 (Ext.refl _)
    have z2 := (A2.ext (Ext.refl _)).lt
    refine (nat_Sub _ _ _ _ _ _ _ _ _ (h.ext x0) (h'.ext x0) hle).mono ?_
    rintro e w1 ⟨a1, c1, rfl, hr1, hf1, hx1⟩
    obtain ⟨k0_0, k0_1, f0_0, f0_1⟩ := box2 A0 hx1
    have z0 := (A0.ext hx1).lt
    obtain ⟨k1_0, k1_1, f1_0, f1_1⟩ := box2 A1 hx1
    have z1 := (A1.ext hx1).lt
    obtain ⟨k2_0, k2_1, f2_0, f2_1⟩ := box2 A2 hx1
    have z2 := (A2.ext hx1).lt
    go_wp2_with fail
    refine (int_signed _ _ _ _ _ (by have := hr1.le; omega)).mono ?_
    rintro e w2 ⟨rfl, hx2⟩
    obtain ⟨k0_0, k0_1, f0_0, f0_1⟩ := box2 A0 (hx1.trans hx2)
    have z0 := (A0.ext (hx1.trans hx2)).lt
    obtain ⟨k1_0, k1_1, f1_0, f1_1⟩ := box2 A1 (hx1.trans hx2)
    have z1 := (A1.ext (hx1.trans hx2)).lt
    obtain ⟨k2_0, k2_1, f2_0, f2_1⟩ := box2 A2 (hx1.trans hx2)
    have z2 := (A2.ext (hx1.trans hx2)).lt
    have fin := NewInt.of_signed (s := s) hr1 hf1 hx1 ⟨rfl, hx2⟩
    go_wp2
    exact bodyPost_ret (by simp [results, Tryz.results208, go_sem, k2_0, k2_1]) rfl (NewInt.touch fin x0 (Touch.two _ (by omega) (by rw [Z0.out]; omega) _ _))
  · rw [← sgn_sub2 s n m (by omega)]
    go_enter Tryz.func208, Tryz.ntmps208
    go_wp2_with fail
    obtain ⟨W, hW, x0, Z0, A0, A1, A2⟩ := boxes3 w 53 [.bool s, .slice a k c] 53 [.bool (!s), .slice b k' c'] 53 [.bool false, .slice none 0 0]
    rw [← hW]
    clear hW
    obtain ⟨k0_0, k0_1, f0_0, f0_1⟩ := box2 A0 (Ext.refl _)
    have z0 := (A0.ext (Ext.refl _)).lt
    obtain ⟨k1_0, k1_1, f1_0, f1_1⟩ := box2 A1 (Ext.refl _)
    have z1 := (A1.ext (Ext.refl _)).lt
    obtain ⟨k2_0, k2_1, f2_0, f2_1⟩ := box2 A2 (Ext.refl _)
    have z2 := (A2.ext (Ext.refl _)).lt
    refine (nat_Sub_no _ _ _ _ _ _ _ _ _ (h.ext x0) (h'.ext x0) (by omega)).mono ?_
    rintro e w1 ⟨rfl, hq1⟩
    obtain ⟨k0_0, k0_1, f0_0, f0_1⟩ := box2 A0 hq1.ext
    have z0 := (A0.ext hq1.ext).lt
    obtain ⟨k1_0, k1_1, f1_0, f1_1⟩ := box2 A1 hq1.ext
    have z1 := (A1.ext hq1.ext).lt
    obtain ⟨k2_0, k2_1, f2_0, f2_1⟩ := box2 A2 hq1.ext
    have z2 := (A2.ext hq1.ext).lt
    go_wp2_with fail
    refine (nat_Sub _ _ _ _ _ _ _ _ _ ((h'.ext x0).ext hq1.ext) ((h.ext x0).ext hq1.ext) (by omega)).mono ?_
    rintro e w2 ⟨a1, c1, rfl, hr1, hf1, hx1⟩
    obtain ⟨k0_0, k0_1, f0_0, f0_1⟩ := box2 A0 (hq1.ext.trans hx1)
    have z0 := (A0.ext (hq1.ext.trans hx1)).lt
    obtain ⟨k1_0, k1_1, f1_0, f1_1⟩ := box2 A1 (hq1.ext.trans hx1)
    have z1 := (A1.ext (hq1.ext.trans hx1)).lt
    obtain ⟨k2_0, k2_1, f2_0, f2_1⟩ := box2 A2 (hq1.ext.trans hx1)
    have z2 := (A2.ext (hq1.ext.trans hx1)).lt
    go_wp2_with fail
    refine (int_signed _ _ _ _ _ (by have := hr1.le; omega)).mono ?_
    rintro e w3 ⟨rfl, hx2⟩
    obtain ⟨k0_0, k0_1, f0_0, f0_1⟩ := box2 A0 ((hq1.ext.trans hx1).trans hx2)
    have z0 := (A0.ext ((hq1.ext.trans hx1).trans hx2)).lt
    obtain ⟨k1_0, k1_1, f1_0, f1_1⟩ := box2 A1 ((hq1.ext.trans hx1).trans hx2)
    have z1 := (A1.ext ((hq1.ext.trans hx1).trans hx2)).lt
    obtain ⟨k2_0, k2_1, f2_0, f2_1⟩ := box2 A2 ((hq1.ext.trans hx1).trans hx2)
    have z2 := (A2.ext ((hq1.ext.trans hx1).trans hx2)).lt
    have fin := NewInt.of_signed (s := !s) hr1 (hf1.mono hq1.ext.size) (hq1.ext.trans hx1) ⟨rfl, hx2⟩
    go_wp2
    exact bodyPost_ret (by simp [results, Tryz.results208, go_sem, k2_0, k2_1]) rfl (NewInt.touch fin x0 (Touch.two _ (by omega) (by rw [Z0.out]; omega) _ _))

/-- integer.Add. -/
theorem int_Add (w : World) (s t : Bool) (a b : Option Addr) (k c k' c' n m : Nat) (h : Raw w a k c n) (h' : Raw w b k' c' m) (b1 : len n < 1000000000) (b2 : len m < 1000000000) :
    Calls Tryz.prog 208 #[.agg #[.bool s, .slice a k c], .agg #[.bool t, .slice b k' c']] w (NewInt (sgn s n + sgn t m) w) := by
  by_cases e : t = s
  · subst e; exact int_Add_same w t a b k c k' c' n m h h' b1 b2
  · obtain rfl : t = !s := by cases s <;> cases t <;> simp_all
    exact int_Add_other w s a b k c k' c' n m h h'

/-- integer.Sign. -/
theorem int_Sign (w : World) (s : Bool) (a : Option Addr) (k c n : Nat) (h : Raw w a k c n) :
    Calls Tryz.prog 154 #[.agg #[.bool s, .slice a k c]] w fun e w' => e = .returned (.int .i64 (sgn s n).sign) ∧ Ext w w' := by
  have hb := boxes1 w 53 [.bool s, .slice a k c]
  by_cases h0 : n = 0
  · subst h0
    have hc : cmpN 0 0 = 0 := rfl
    go_enter Tryz.func154, Tryz.ntmps154
    go_wp2_with fail
    refine (nat_Compare _ _ _ _ _ _ _ _ _ (h.ext ((Ext.refl _).alloc _)) (Raw.nil _)).mono ?_
    rintro e w1 ⟨rfl, hq⟩
    rw [hc]
    go_wp2
    go_ret
    exact ⟨by rw [sgn_zero]; rfl, (((Ext.refl _).alloc _).trans hq.ext)⟩
  · have hc : cmpN n 0 = 1 := by unfold cmpN; rw [if_neg (by omega), if_neg h0]
    have HC := Lib.hid hc; clear hc
    cases s
    · have e1 : (sgn false n).sign = 1 := by rw [sgn_false, Int.sign_eq_one_of_pos (by omega)]
      have E1 := Lib.hid e1; clear e1
      go_enter Tryz.func154, Tryz.ntmps154
      go_wp2_with fail
      refine (nat_Compare _ _ _ _ _ _ _ _ _ (h.ext ((Ext.refl _).alloc _)) (Raw.nil _)).mono ?_
      rintro e w1 ⟨rfl, hq⟩
      rw [HC.out]
      obtain ⟨k0, k1, f0, f1⟩ := box2 (Arr.alloc w 53 [.bool false, .slice a k c]) hq.ext
      go_wp2
      go_ret
      exact ⟨ret_int E1.out.symm, (((Ext.refl _).alloc _).trans hq.ext)⟩
    · have e1 : (sgn true n).sign = -1 := by rw [sgn_true, Int.sign_eq_neg_one_of_neg (by omega)]
      have E1 := Lib.hid e1; clear e1
      go_enter Tryz.func154, Tryz.ntmps154
      go_wp2_with fail
      refine (nat_Compare _ _ _ _ _ _ _ _ _ (h.ext ((Ext.refl _).alloc _)) (Raw.nil _)).mono ?_
      rintro e w1 ⟨rfl, hq⟩
      rw [HC.out]
      obtain ⟨k0, k1, f0, f1⟩ := box2 (Arr.alloc w 53 [.bool true, .slice a k c]) hq.ext
      go_wp2
      go_ret
      exact ⟨ret_int E1.out.symm, (((Ext.refl _).alloc _).trans hq.ext)⟩

end Go.Proofs.YtgihpfkjpfanmaaGreat

/- Contracts of the program's package integer: Compare, Value, DivMod. -/
namespace Go.Proofs.YtgihpfkjpfanmaaGreat
open Go.RowKit

/-- -1, 0 or 1. -/
def cmpZ (x y : Int) : Int := if x < y then -1 else if x = y then 0 else 1
theorem cmpZ_lt {x y : Int} (h : x < y) : cmpZ x y = -1 := by unfold cmpZ; rw [if_pos h]
theorem cmpZ_gt {x y : Int} (h : y < x) : cmpZ x y = 1 := by unfold cmpZ; rw [if_neg (by omega), if_neg (by omega)]
theorem cmpZ_nat (n m : Nat) : cmpZ (n : Int) (m : Int) = cmpN n m := by
  unfold cmpZ cmpN; simp only [Int.ofNat_lt]
  by_cases h : n < m
  · simp [h]
  · by_cases h' : n = m
    · simp [h']
    · have : ¬ (n : Int) = m := by omega
      simp [h, h', this]
theorem cmpZ_neg (x y : Int) : cmpZ (-x) (-y) = cmpZ y x := by
  unfold cmpZ
  by_cases h : y < x
  · rw [if_pos (by omega), if_pos h]
  · rw [if_neg (by omega), if_neg h]
    by_cases h' : x = y
    · rw [if_pos (by omega), if_pos (by omega)]
    · rw [if_neg (by omega), if_neg (by omega)]

theorem sign_lt {x y : Int} (h : x.sign < y.sign) : x < y := by
  rcases Int.lt_trichotomy x 0 with h1 | h1 | h1
  · rcases Int.lt_trichotomy y 0 with h2 | h2 | h2
    · rw [Int.sign_eq_neg_one_of_neg h1, Int.sign_eq_neg_one_of_neg h2] at h; omega
    · omega
    · omega
  · subst h1
    rcases Int.lt_trichotomy y 0 with h2 | h2 | h2
    · rw [Int.sign_eq_neg_one_of_neg h2] at h; simp at h
    · subst h2; simp at h
    · exact h2
  · rcases Int.lt_trichotomy y 0 with h2 | h2 | h2
    · rw [Int.sign_eq_one_of_pos h1, Int.sign_eq_neg_one_of_neg h2] at h; omega
    · subst h2; rw [Int.sign_eq_one_of_pos h1] at h; simp at h
    · rw [Int.sign_eq_one_of_pos h1, Int.sign_eq_one_of_pos h2] at h; omega

set_option maxHeartbeats 1000000 in
/-- integer.Compare. -/
theorem int_Compare (w : World) (s t : Bool) (a b : Option Addr) (k c k' c' n m : Nat) (h : Raw w a k c n) (h' : Raw w b k' c' m) :
    Calls Tryz.prog 133 #[.agg #[.bool s, .slice a k c], .agg #[.bool t, .slice b k' c']] w fun e w' => e = .returned (.int .i64 (cmpZ (sgn s n) (sgn t m))) ∧ Ext w w' := by
  by_cases c1 : (sgn s n).sign < (sgn t m).sign
  · have e1 := cmpZ_lt (sign_lt c1)
    have E1 := Lib.hid e1; clear e1
    go_enter Tryz.func133, Tryz.ntmps133
    go_wp2
    obtain ⟨W, hW, x0, Z0, A0, A1⟩ := boxes2 w 53 [.bool s, .slice a k c] 53 [.bool t, .slice b k' c']
    rw [← hW]
    clear hW
    obtain ⟨k0_0, k0_1, f0_0, f0_1⟩ := box2 A0 (Ext.refl _)
    have z0 := (A0.ext (Ext.refl _)).lt
    obtain ⟨k1_0, k1_1, f1_0, f1_1⟩ := box2 A1 (Ext.refl _)
    have z1 := (A1.ext (Ext.refl _)).lt
    have tok1 : True := trivial
    go_region_held3 (fun w' => w'.cell? ⟨w.heap.size, 0, none⟩ = some (.bool s) ∧ w'.cell? ⟨w.heap.size, 1, none⟩ = some (.slice a k c) ∧ w'.cell? ⟨w.heap.size + 1, 0, none⟩ = some (.bool t) ∧ w'.cell? ⟨w.heap.size + 1, 1, none⟩ = some (.slice b k' c')) (first | exact ⟨k0_0, k0_1, k1_0, k1_1⟩ | (simp [go_sem, k0_0, k0_1, k1_0, k1_1])) (first
      | (go_at_call 154; have _t := tok1; refine (int_Sign _ _ _ _ _ _ ((h.ext x0).ext (by exact (Ext.refl _).drew))).mono ?_; rintro e w1 ⟨rfl, hx1⟩; clear tok1 _t; obtain ⟨k0_0, k0_1, f0_0, f0_1⟩ := box2 A0 (((Ext.refl _).drew).trans hx1); have z0 := (A0.ext (((Ext.refl _).drew).trans hx1)).lt; obtain ⟨k1_0, k1_1, f1_0, f1_1⟩ := box2 A1 (((Ext.refl _).drew).trans hx1); have z1 := (A1.ext (((Ext.refl _).drew).trans hx1)).lt)
      | (go_at_call 154; refine (int_Sign _ _ _ _ _ _ (((h'.ext x0).ext (by exact (Ext.refl _).drew)).ext hx1)).mono ?_; rintro e w2 ⟨rfl, hx2⟩; obtain ⟨k0_0, k0_1, f0_0, f0_1⟩ := box2 A0 ((((Ext.refl _).drew).trans hx1).trans hx2); have z0 := (A0.ext ((((Ext.refl _).drew).trans hx1).trans hx2)).lt; obtain ⟨k1_0, k1_1, f1_0, f1_1⟩ := box2 A1 ((((Ext.refl _).drew).trans hx1).trans hx2); have z1 := (A1.ext ((((Ext.refl _).drew).trans hx1).trans hx2)).lt))
    generalize (sgn s n).sign = p at *
    generalize (sgn t m).sign = q at *
    go_wp2
    go_ret
    exact ⟨ret_int E1.out.symm, (x0.drew.trans hx1).trans hx2⟩
  by_cases c2 : (sgn t m).sign < (sgn s n).sign
  · have e1 := cmpZ_gt (sign_lt c2)
    have E1 := Lib.hid e1; clear e1
    go_enter Tryz.func133, Tryz.ntmps133
    go_wp2
    obtain ⟨W, hW, x0, Z0, A0, A1⟩ := boxes2 w 53 [.bool s, .slice a k c] 53 [.bool t, .slice b k' c']
    rw [← hW]
    clear hW
    obtain ⟨k0_0, k0_1, f0_0, f0_1⟩ := box2 A0 (Ext.refl _)
    have z0 := (A0.ext (Ext.refl _)).lt
    obtain ⟨k1_0, k1_1, f1_0, f1_1⟩ := box2 A1 (Ext.refl _)
    have z1 := (A1.ext (Ext.refl _)).lt
    have tok1 : True := trivial
    go_region_held3 (fun w' => w'.cell? ⟨w.heap.size, 0, none⟩ = some (.bool s) ∧ w'.cell? ⟨w.heap.size, 1, none⟩ = some (.slice a k c) ∧ w'.cell? ⟨w.heap.size + 1, 0, none⟩ = some (.bool t) ∧ w'.cell? ⟨w.heap.size + 1, 1, none⟩ = some (.slice b k' c')) (first | exact ⟨k0_0, k0_1, k1_0, k1_1⟩ | (simp [go_sem, k0_0, k0_1, k1_0, k1_1])) (first
      | (go_at_call 154; have _t := tok1; refine (int_Sign _ _ _ _ _ _ ((h.ext x0).ext (by exact (Ext.refl _).drew))).mono ?_; rintro e w1 ⟨rfl, hx1⟩; clear tok1 _t; obtain ⟨k0_0, k0_1, f0_0, f0_1⟩ := box2 A0 (((Ext.refl _).drew).trans hx1); have z0 := (A0.ext (((Ext.refl _).drew).trans hx1)).lt; obtain ⟨k1_0, k1_1, f1_0, f1_1⟩ := box2 A1 (((Ext.refl _).drew).trans hx1); have z1 := (A1.ext (((Ext.refl _).drew).trans hx1)).lt)
      | (go_at_call 154; refine (int_Sign _ _ _ _ _ _ (((h'.ext x0).ext (by exact (Ext.refl _).drew)).ext hx1)).mono ?_; rintro e w2 ⟨rfl, hx2⟩; obtain ⟨k0_0, k0_1, f0_0, f0_1⟩ := box2 A0 ((((Ext.refl _).drew).trans hx1).trans hx2); have z0 := (A0.ext ((((Ext.refl _).drew).trans hx1).trans hx2)).lt; obtain ⟨k1_0, k1_1, f1_0, f1_1⟩ := box2 A1 ((((Ext.refl _).drew).trans hx1).trans hx2); have z1 := (A1.ext ((((Ext.refl _).drew).trans hx1).trans hx2)).lt))
    generalize (sgn s n).sign = p at *
    generalize (sgn t m).sign = q at *
    go_wp2
    go_ret
    exact ⟨ret_int E1.out.symm, (x0.drew.trans hx1).trans hx2⟩
  have c3 : (sgn s n).sign = (sgn t m).sign := by omega
  by_cases c4 : (sgn s n).sign < 0
  · have e1 : cmpZ (sgn s n) (sgn t m) = cmpN m n := by
      have n1 : sgn s n < 0 := by apply Int.not_le.1; intro h; have := Int.sign_nonneg_iff.2 h; omega
      have n2 : sgn t m < 0 := by apply Int.not_le.1; intro h; have := Int.sign_nonneg_iff.2 h; omega
      cases s
      · rw [sgn_false] at n1; omega
      · cases t
        · rw [sgn_false] at n2; omega
        · rw [sgn_true, sgn_true, cmpZ_neg, cmpZ_nat]
    have E1 := Lib.hid e1; clear e1 c3
    go_enter Tryz.func133, Tryz.ntmps133
    go_wp2
    obtain ⟨W, hW, x0, Z0, A0, A1⟩ := boxes2 w 53 [.bool s, .slice a k c] 53 [.bool t, .slice b k' c']
    rw [← hW]
    clear hW
    obtain ⟨k0_0, k0_1, f0_0, f0_1⟩ := box2 A0 (Ext.refl _)
    have z0 := (A0.ext (Ext.refl _)).lt
    obtain ⟨k1_0, k1_1, f1_0, f1_1⟩ := box2 A1 (Ext.refl _)
    have z1 := (A1.ext (Ext.refl _)).lt
    have tok1 : True := trivial
    go_region_held3 (fun w' => w'.cell? ⟨w.heap.size, 0, none⟩ = some (.bool s) ∧ w'.cell? ⟨w.heap.size, 1, none⟩ = some (.slice a k c) ∧ w'.cell? ⟨w.heap.size + 1, 0, none⟩ = some (.bool t) ∧ w'.cell? ⟨w.heap.size + 1, 1, none⟩ = some (.slice b k' c')) (first | exact ⟨k0_0, k0_1, k1_0, k1_1⟩ | (simp [go_sem, k0_0, k0_1, k1_0, k1_1])) (first
      | (go_at_call 154; have _t := tok1; refine (int_Sign _ _ _ _ _ _ ((h.ext x0).ext (by exact (Ext.refl _).drew))).mono ?_; rintro e w1 ⟨rfl, hx1⟩; clear tok1 _t; obtain ⟨k0_0, k0_1, f0_0, f0_1⟩ := box2 A0 (((Ext.refl _).drew).trans hx1); have z0 := (A0.ext (((Ext.refl _).drew).trans hx1)).lt; obtain ⟨k1_0, k1_1, f1_0, f1_1⟩ := box2 A1 (((Ext.refl _).drew).trans hx1); have z1 := (A1.ext (((Ext.refl _).drew).trans hx1)).lt)
      | (go_at_call 154; refine (int_Sign _ _ _ _ _ _ (((h'.ext x0).ext (by exact (Ext.refl _).drew)).ext hx1)).mono ?_; rintro e w2 ⟨rfl, hx2⟩; obtain ⟨k0_0, k0_1, f0_0, f0_1⟩ := box2 A0 ((((Ext.refl _).drew).trans hx1).trans hx2); have z0 := (A0.ext ((((Ext.refl _).drew).trans hx1).trans hx2)).lt; obtain ⟨k1_0, k1_1, f1_0, f1_1⟩ := box2 A1 ((((Ext.refl _).drew).trans hx1).trans hx2); have z1 := (A1.ext ((((Ext.refl _).drew).trans hx1).trans hx2)).lt))
    generalize (sgn s n).sign = p at *
    generalize (sgn t m).sign = q at *
    go_wp2_with fail
    refine (nat_Compare _ _ _ _ _ _ _ _ _ ((((h'.ext x0).ext (by exact (Ext.refl _).drew)).ext hx1).ext hx2) ((((h.ext x0).ext (by exact (Ext.refl _).drew)).ext hx1).ext hx2)).mono ?_
    rintro e w3 ⟨rfl, hq⟩
    go_wp2
    go_ret
    exact ⟨ret_int E1.out.symm, ((x0.drew.trans hx1).trans hx2).trans hq.ext⟩
  · have e1 : cmpZ (sgn s n) (sgn t m) = cmpN n m := by
      have n1 : 0 ≤ sgn s n := by apply Int.not_lt.1; intro h; have := Int.sign_eq_neg_one_of_neg h; omega
      have n2 : 0 ≤ sgn t m := by apply Int.not_lt.1; intro h; have := Int.sign_eq_neg_one_of_neg h; omega
      have m1 : sgn s n = n := by cases s
                                  · rfl
                                  · rw [sgn_true] at *; omega
      have m2 : sgn t m = m := by cases t
                                  · rfl
                                  · rw [sgn_true] at *; omega
      rw [m1, m2, cmpZ_nat]
    have E1 := Lib.hid e1; clear e1 c3
    go_enter Tryz.func133, Tryz.ntmps133
    go_wp2
    obtain ⟨W, hW, x0, Z0, A0, A1⟩ := boxes2 w 53 [.bool s, .slice a k c] 53 [.bool t, .slice b k' c']
    rw [← hW]
    clear hW
    obtain ⟨k0_0, k0_1, f0_0, f0_1⟩ := box2 A0 (Ext.refl _)
    have z0 := (A0.ext (Ext.refl _)).lt
    obtain ⟨k1_0, k1_1, f1_0, f1_1⟩ := box2 A1 (Ext.refl _)
    have z1 := (A1.ext (Ext.refl _)).lt
    have tok1 : True := trivial
    go_region_held3 (fun w' => w'.cell? ⟨w.heap.size, 0, none⟩ = some (.bool s) ∧ w'.cell? ⟨w.heap.size, 1, none⟩ = some (.slice a k c) ∧ w'.cell? ⟨w.heap.size + 1, 0, none⟩ = some (.bool t) ∧ w'.cell? ⟨w.heap.size + 1, 1, none⟩ = some (.slice b k' c')) (first | exact ⟨k0_0, k0_1, k1_0, k1_1⟩ | (simp [go_sem, k0_0, k0_1, k1_0, k1_1])) (first
      | (go_at_call 154; have _t := tok1; refine (int_Sign _ _ _ _ _ _ ((h.ext x0).ext (by exact (Ext.refl _).drew))).mono ?_; rintro e w1 ⟨rfl, hx1⟩; clear tok1 _t; obtain ⟨k0_0, k0_1, f0_0, f0_1⟩ := box2 A0 (((Ext.refl _).drew).trans hx1); have z0 := (A0.ext (((Ext.refl _).drew).trans hx1)).lt; obtain ⟨k1_0, k1_1, f1_0, f1_1⟩ := box2 A1 (((Ext.refl _).drew).trans hx1); have z1 := (A1.ext (((Ext.refl _).drew).trans hx1)).lt)
      | (go_at_call 154; refine (int_Sign _ _ _ _ _ _ (((h'.ext x0).ext (by exact (Ext.refl _).drew)).ext hx1)).mono ?_; rintro e w2 ⟨rfl, hx2⟩; obtain ⟨k0_0, k0_1, f0_0, f0_1⟩ := box2 A0 ((((Ext.refl _).drew).trans hx1).trans hx2); have z0 := (A0.ext ((((Ext.refl _).drew).trans hx1).trans hx2)).lt; obtain ⟨k1_0, k1_1, f1_0, f1_1⟩ := box2 A1 ((((Ext.refl _).drew).trans hx1).trans hx2); have z1 := (A1.ext ((((Ext.refl _).drew).trans hx1).trans hx2)).lt))
    generalize (sgn s n).sign = p at *
    generalize (sgn t m).sign = q at *
    go_wp2_with fail
    refine (nat_Compare _ _ _ _ _ _ _ _ _ ((((h.ext x0).ext (by exact (Ext.refl _).drew)).ext hx1).ext hx2) ((((h'.ext x0).ext (by exact (Ext.refl _).drew)).ext hx1).ext hx2)).mono ?_
    rintro e w3 ⟨rfl, hq⟩
    go_wp2
    go_ret
    exact ⟨ret_int E1.out.symm, ((x0.drew.trans hx1).trans hx2).trans hq.ext⟩

/-- integer.Value: the number fits. -/
theorem int_Value (w : World) (s : Bool) (a : Option Addr) (k c n : Nat) (h : Raw w a k c n) (h1 : -9223372036854775808 ≤ sgn s n) (h2 : sgn s n ≤ 9223372036854775807) :
    Calls Tryz.prog 83 #[.agg #[.bool s, .slice a k c]] w fun e w' => e = .returned (.tuple #[.int .i64 (sgn s n), .bool true]) ∧ Ext w w' := by
  cases s
  · rw [sgn_false] at *
    have d1 : ¬ (9223372036854775808 : Int) ≤ (n : Int) := by omega
    go_enter Tryz.func83, Tryz.ntmps83
    go_wp2_with fail
    refine (nat_Uint64_yes _ _ _ _ _ (h.ext ((Ext.refl _).alloc _)) (by omega)).mono ?_
    rintro e w1 ⟨rfl, rfl⟩
    go_wp2
    go_ret2
    exact ⟨rfl, (Ext.refl _).alloc _⟩
  · rw [sgn_true] at *
    have e1 : wrap64 (IntKind.u64.wrap (-(n : Int))) = -(n : Int) := by
      rw [IntKind.wrap_u64]; unfold wrap64; omega
    have E1 := Lib.hid e1; clear e1
    have d1 : (n : Int) ≤ 9223372036854775808 := by omega
    go_enter Tryz.func83, Tryz.ntmps83
    go_wp2_with fail
    refine (nat_Uint64_yes _ _ _ _ _ (h.ext ((Ext.refl _).alloc _)) (by omega)).mono ?_
    rintro e w1 ⟨rfl, rfl⟩
    go_wp2
    go_ret2
    refine ⟨?_, (Ext.refl _).alloc _⟩
    simp [go_sem, E1.out]

/-- A call returns two new integers and true. -/
def NewInts (x y : Int) (w : World) (e : Ending) (w' : World) : Prop := ∃ a c a' c', e = .returned (.tuple #[.agg #[.bool (decide (x < 0)), .slice a (len x.natAbs) c], .agg #[.bool (decide (y < 0)), .slice a' (len y.natAbs) c'], .bool true]) ∧
  Raw w' a (len x.natAbs) c x.natAbs ∧ Fr w.heap.size a ∧ Raw w' a' (len y.natAbs) c' y.natAbs ∧ Fr w.heap.size a' ∧ Ext w w'

theorem NewInts.of {w W w2 w3 : World} {s : Bool} {a a' : Option Addr} {c c' n m : Nat} {x y : Int} (hx : x = sgn s n) (hy : y = m) (h : Raw w2 a (len n) c n) (hf : Fr W.heap.size a) (h' : Raw w2 a' (len m) c' m) (hf' : Fr W.heap.size a') (hW : Ext w W) (h2 : Ext W w2)
    (t : Touch w.heap.size W.heap.size w2 w3) : NewInts x y w (.returned (.tuple #[.agg #[.bool (s && decide (0 < len n)), .slice a (len n) c], .agg #[.bool false, .slice a' (len m) c'], .bool true])) w3 := by
  subst hx; subst hy
  refine ⟨a, c, a', c', ?_, ?_, hf.mono hW.size, ?_, hf'.mono hW.size, hW.touch h2 t⟩
  · rw [sgn_natAbs, sgn_neg]; simp only [len_pos, Int.natAbs_natCast]
    have : decide ((m : Int) < 0) = false := by simp
    rw [this]
  · rw [sgn_natAbs]; exact h.touch t hf.out
  · rw [Int.natAbs_natCast]; exact h'.touch t hf'.out

theorem ediv_case {s t : Bool} {n m : Nat} (hm : 0 < m) (h : s = false ∨ n % m = 0) : sgn s n / sgn t m = sgn (s != t) (n / m) ∧ sgn s n % sgn t m = (n % m : Nat) := by
  have hmz : (m : Int) ≠ 0 := by omega
  cases s
  · cases t
    · simp [sgn]
    · simp [sgn, Int.ediv_neg, Int.emod_neg]
  · have h0 : n % m = 0 := by simpa using h
    obtain ⟨q, rfl⟩ : ∃ q, n = m * q := ⟨n / m, by have := Nat.div_add_mod n m; omega⟩
    cases t
    · simp only [sgn]; constructor
      · simp [Nat.mul_div_cancel_left _ hm]
        rw [← Int.mul_neg, Int.mul_ediv_cancel_left _ hmz]
      · simp
    · simp only [sgn]; constructor
      · simp [Nat.mul_div_cancel_left _ hm]
        rw [← Int.mul_neg, Int.mul_ediv_cancel_left _ hmz]; omega
      · simp

theorem ediv_case_neg {t : Bool} {n m : Nat} (hm : 0 < m) (h : 0 < n % m) : sgn true n / sgn t m = sgn (true != t) (n / m + 1) ∧ sgn true n % sgn t m = (m - n % m : Nat) := by
  have h1 := Nat.div_add_mod n m
  have h2 := Nat.mod_lt n hm
  have hmz : (0 : Int) < (m : Int) := by omega
  have e : (-(n : Int)) = (m : Int) * (-((n / m : Nat) : Int) - 1) + ((m - n % m : Nat) : Int) := by
    rw [Int.ofNat_sub (Nat.le_of_lt h2), Int.mul_sub, Int.mul_neg]
    have : (n : Int) = (m : Int) * ((n / m : Nat) : Int) + ((n % m : Nat) : Int) := by exact_mod_cast h1.symm
    rw [Int.mul_one]
    omega
  have q1 : (-(n : Int)) / (m : Int) = -((n / m : Nat) : Int) - 1 := by
    rw [e, Int.mul_add_ediv_left _ _ (by omega), Int.ediv_eq_zero_of_lt (by omega) (by omega)]; omega
  have r1 : (-(n : Int)) % (m : Int) = ((m - n % m : Nat) : Int) := by
    rw [e, Int.mul_add_emod_self_left, Int.emod_eq_of_lt (by omega) (by omega)]
  cases t
  · simp only [sgn]; simp
    refine ⟨?_, ?_⟩
    · rw [q1]; simp; omega
    · rw [r1]
  · simp only [sgn]; simp
    refine ⟨?_, ?_⟩
    · rw [q1]; simp; omega
    · rw [r1]

set_option maxHeartbeats 1000000 in
set_option maxRecDepth 100000 in
/-- integer.DivMod. -/
theorem int_DivMod (w : World) (s t : Bool) (a b : Option Addr) (k c k' c' n m : Nat) (h : Raw w a k c n) (h' : Raw w b k' c' m) (hm : 0 < m) (b1 : len n < 1000000000 - 1) :
    Calls Tryz.prog 215 #[.agg #[.bool s, .slice a k c], .agg #[.bool t, .slice b k' c']] w (NewInts (sgn s n / sgn t m) (sgn s n % sgn t m) w) := by
  by_cases hc : s = false ∨ n % m = 0
  · obtain ⟨e1, e2⟩ := ediv_case (t := t) hm hc
    have E1 := Lib.hid e1; have E2 := Lib.hid e2; clear e1 e2
    have hg : (s && decide (0 < len (n % m))) = false := by
      rcases hc with rfl | h0
      · rfl
      · rw [h0, len_zero]; simp
    go_enter Tryz.func215, Tryz.ntmps215
    go_wp2_with fail
    obtain ⟨W, hW, x0, Z0, A0, A1, A2, A3⟩ := boxes4 w 53 [.bool s, .slice a k c] 53 [.bool t, .slice b k' c'] 53 [.bool false, .slice none 0 0] 53 [.bool false, .slice none 0 0]
    rw [← hW]
    clear hW
    obtain ⟨k0_0, k0_1, f0_0, f0_1⟩ := box2 A0 (Ext.refl _)
    have z0 := (A0.ext (Ext.refl _)).lt
    obtain ⟨k1_0, k1_1, f1_0, f1_1⟩ := box2 A1 (Ext.refl _)
    have z1 := (A1.ext (Ext.refl _)).lt
    obtain ⟨k2_0, k2_1, f2_0, f2_1⟩ := box2 A2 (Ext.refl _)
    have z2 := (A2.ext (Ext.refl _)).lt
    obtain ⟨k3_0, k3_1, f3_0, f3_1⟩ := box2 A3 (Ext.refl _)
    have z3 := (A3.ext (Ext.refl _)).lt
    refine (nat_DivMod _ _ _ _ _ _ _ _ _ (h.ext x0) (h'.ext x0) hm (by omega)).mono ?_
    rintro e w1 ⟨a1, c1, a2, c2, rfl, hr1, hf1, hr2, hf2, hx1⟩
    obtain ⟨k0_0, k0_1, f0_0, f0_1⟩ := box2 A0 hx1
    have z0 := (A0.ext hx1).lt
    obtain ⟨k1_0, k1_1, f1_0, f1_1⟩ := box2 A1 hx1
    have z1 := (A1.ext hx1).lt
    obtain ⟨k2_0, k2_1, f2_0, f2_1⟩ := box2 A2 hx1
    have z2 := (A2.ext hx1).lt
    obtain ⟨k3_0, k3_1, f3_0, f3_1⟩ := box2 A3 hx1
    have z3 := (A3.ext hx1).lt
    have hl1 := hr1.le
    have hl2 := hr2.le
    cases s
    · go_wp2_with fail
      refine (int_signed _ _ _ _ _ (by omega)).mono ?_
      rintro e w2 ⟨rfl, hx2⟩
      obtain ⟨k0_0, k0_1, f0_0, f0_1⟩ := box2 A0 (hx1.trans hx2)
      have z0 := (A0.ext (hx1.trans hx2)).lt
      obtain ⟨k1_0, k1_1, f1_0, f1_1⟩ := box2 A1 (hx1.trans hx2)
      have z1 := (A1.ext (hx1.trans hx2)).lt
      obtain ⟨k2_0, k2_1, f2_0, f2_1⟩ := box2 A2 (hx1.trans hx2)
      have z2 := (A2.ext (hx1.trans hx2)).lt
      obtain ⟨k3_0, k3_1, f3_0, f3_1⟩ := box2 A3 (hx1.trans hx2)
      have z3 := (A3.ext (hx1.trans hx2)).lt
      go_wp2_with fail
      refine (int_signed _ _ _ _ _ (by omega)).mono ?_
      rintro e w3 ⟨rfl, hx3⟩
      obtain ⟨k0_0, k0_1, f0_0, f0_1⟩ := box2 A0 ((hx1.trans hx2).trans hx3)
      have z0 := (A0.ext ((hx1.trans hx2).trans hx3)).lt
      obtain ⟨k1_0, k1_1, f1_0, f1_1⟩ := box2 A1 ((hx1.trans hx2).trans hx3)
      have z1 := (A1.ext ((hx1.trans hx2).trans hx3)).lt
      obtain ⟨k2_0, k2_1, f2_0, f2_1⟩ := box2 A2 ((hx1.trans hx2).trans hx3)
      have z2 := (A2.ext ((hx1.trans hx2).trans hx3)).lt
      obtain ⟨k3_0, k3_1, f3_0, f3_1⟩ := box2 A3 ((hx1.trans hx2).trans hx3)
      have z3 := (A3.ext ((hx1.trans hx2).trans hx3)).lt
      have fin := fun w4 t4 => NewInts.of (w := w) (w3 := w4) (x := sgn false n / sgn t m) (y := sgn false n % sgn t m) E1.out E2.out ((hr1.ext hx2).ext hx3) hf1 ((hr2.ext hx2).ext hx3) hf2 x0 ((hx1.trans hx2).trans hx3) t4
      go_wp2
      exact bodyPost_ret (by simp [results, Tryz.results215, go_sem, k2_0, k2_1, k3_0, k3_1]) rfl (fin _ ((Touch.two _ (by omega) (by rw [Z0.out]; omega) _ _).trans (Touch.two _ (by omega) (by rw [Z0.out]; omega) _ _)))
    · have h0 : n % m = 0 := by simpa using hc
      have h0' : len (n % m) = 0 := by rw [h0]; rfl
      have H0 := Lib.hid h0; clear h0 hg hc
      have hd0 : decide (0 < len (n % m)) = false := by rw [h0']; rfl
      have H0' := Lib.hid h0'; clear h0'
      go_wp2_with fail
      refine (int_signed _ _ _ _ _ (by omega)).mono ?_
      rintro e w2 ⟨rfl, hx2⟩
      obtain ⟨k0_0, k0_1, f0_0, f0_1⟩ := box2 A0 (hx1.trans hx2)
      have z0 := (A0.ext (hx1.trans hx2)).lt
      obtain ⟨k1_0, k1_1, f1_0, f1_1⟩ := box2 A1 (hx1.trans hx2)
      have z1 := (A1.ext (hx1.trans hx2)).lt
      obtain ⟨k2_0, k2_1, f2_0, f2_1⟩ := box2 A2 (hx1.trans hx2)
      have z2 := (A2.ext (hx1.trans hx2)).lt
      obtain ⟨k3_0, k3_1, f3_0, f3_1⟩ := box2 A3 (hx1.trans hx2)
      have z3 := (A3.ext (hx1.trans hx2)).lt
      go_wp2_with fail
      refine (int_signed _ _ _ _ _ (by omega)).mono ?_
      rintro e w3 ⟨rfl, hx3⟩
      obtain ⟨k0_0, k0_1, f0_0, f0_1⟩ := box2 A0 ((hx1.trans hx2).trans hx3)
      have z0 := (A0.ext ((hx1.trans hx2).trans hx3)).lt
      obtain ⟨k1_0, k1_1, f1_0, f1_1⟩ := box2 A1 ((hx1.trans hx2).trans hx3)
      have z1 := (A1.ext ((hx1.trans hx2).trans hx3)).lt
      obtain ⟨k2_0, k2_1, f2_0, f2_1⟩ := box2 A2 ((hx1.trans hx2).trans hx3)
      have z2 := (A2.ext ((hx1.trans hx2).trans hx3)).lt
      obtain ⟨k3_0, k3_1, f3_0, f3_1⟩ := box2 A3 ((hx1.trans hx2).trans hx3)
      have z3 := (A3.ext ((hx1.trans hx2).trans hx3)).lt
      have fin := fun w4 t4 => NewInts.of (w := w) (w3 := w4) (x := sgn true n / sgn t m) (y := sgn true n % sgn t m) E1.out E2.out ((hr1.ext hx2).ext hx3) hf1 ((hr2.ext hx2).ext hx3) hf2 x0 ((hx1.trans hx2).trans hx3) t4
      go_wp2
      exact bodyPost_ret (by simp [results, Tryz.results215, go_sem, k2_0, k2_1, k3_0, k3_1]) rfl (fin _ ((Touch.two _ (by omega) (by rw [Z0.out]; omega) _ _).trans (Touch.two _ (by omega) (by rw [Z0.out]; omega) _ _)))
  · obtain ⟨rfl, hr0⟩ : s = true ∧ 0 < n % m := by
      cases s
      · exact absurd (Or.inl rfl) hc
      · exact ⟨rfl, Nat.pos_of_ne_zero fun h => hc (Or.inr h)⟩
    clear hc
    obtain ⟨e1, e2⟩ := ediv_case_neg (t := t) hm hr0
    have E1 := Lib.hid e1; have E2 := Lib.hid e2; clear e1 e2
    have hlr := len_pos.2 hr0
    have hrm := Nat.mod_lt n hm
    go_enter Tryz.func215, Tryz.ntmps215
    go_wp2_with fail
    obtain ⟨W, hW, x0, Z0, A0, A1, A2, A3⟩ := boxes4 w 53 [.bool true, .slice a k c] 53 [.bool t, .slice b k' c'] 53 [.bool false, .slice none 0 0] 53 [.bool false, .slice none 0 0]
    rw [← hW]
    clear hW
    obtain ⟨k0_0, k0_1, f0_0, f0_1⟩ := box2 A0 (Ext.refl _)
    have z0 := (A0.ext (Ext.refl _)).lt
    obtain ⟨k1_0, k1_1, f1_0, f1_1⟩ := box2 A1 (Ext.refl _)
    have z1 := (A1.ext (Ext.refl _)).lt
    obtain ⟨k2_0, k2_1, f2_0, f2_1⟩ := box2 A2 (Ext.refl _)
    have z2 := (A2.ext (Ext.refl _)).lt
    obtain ⟨k3_0, k3_1, f3_0, f3_1⟩ := box2 A3 (Ext.refl _)
    have z3 := (A3.ext (Ext.refl _)).lt
    refine (nat_DivMod _ _ _ _ _ _ _ _ _ (h.ext x0) (h'.ext x0) hm (by omega)).mono ?_
    rintro e w1 ⟨a1, c1, a2, c2, rfl, hr1, hf1, hr2, hf2, hx1⟩
    obtain ⟨k0_0, k0_1, f0_0, f0_1⟩ := box2 A0 hx1
    have z0 := (A0.ext hx1).lt
    obtain ⟨k1_0, k1_1, f1_0, f1_1⟩ := box2 A1 hx1
    have z1 := (A1.ext hx1).lt
    obtain ⟨k2_0, k2_1, f2_0, f2_1⟩ := box2 A2 hx1
    have z2 := (A2.ext hx1).lt
    obtain ⟨k3_0, k3_1, f3_0, f3_1⟩ := box2 A3 hx1
    have z3 := (A3.ext hx1).lt
    have hd0 : decide (0 < len (n % m)) = true := by simp [hlr]
    have hone : ∀ W : World, Raw (W.alloc (Obj.cells #[.int .u32 1] 122)) (some ⟨W.heap.size, 0, none⟩) 1 1 1 := fun W =>
      ⟨[1], rfl, rfl, (Arr.alloc W 122 (u32s [1])).limbs (Small.one (by decide)) (by simp)⟩
    have hln : len (n / m) ≤ len n := len_mono (Nat.div_le_self _ _)
    go_wp2_with fail
    refine (nat_Add _ _ _ _ _ _ _ _ _ (hr1.ext ((Ext.refl _).alloc _)) (hone _) (by omega) (by rw [len_one (by decide) (by decide)]; decide)).mono ?_
    rintro e w2 ⟨a3, c3, rfl, hr3, hf3, hx2⟩
    obtain ⟨k0_0, k0_1, f0_0, f0_1⟩ := box2 A0 ((hx1.alloc _).trans hx2)
    have z0 := (A0.ext ((hx1.alloc _).trans hx2)).lt
    obtain ⟨k1_0, k1_1, f1_0, f1_1⟩ := box2 A1 ((hx1.alloc _).trans hx2)
    have z1 := (A1.ext ((hx1.alloc _).trans hx2)).lt
    obtain ⟨k2_0, k2_1, f2_0, f2_1⟩ := box2 A2 ((hx1.alloc _).trans hx2)
    have z2 := (A2.ext ((hx1.alloc _).trans hx2)).lt
    obtain ⟨k3_0, k3_1, f3_0, f3_1⟩ := box2 A3 ((hx1.alloc _).trans hx2)
    have z3 := (A3.ext ((hx1.alloc _).trans hx2)).lt
    go_wp2_with fail
    refine (nat_Sub _ _ _ _ _ _ _ _ _ (((h'.ext x0).ext (hx1.alloc _)).ext hx2) ((hr2.ext ((Ext.refl _).alloc _)).ext hx2) (Nat.le_of_lt hrm)).mono ?_
    rintro e w3 ⟨a4, c4, rfl, hr4, hf4, hx3⟩
    obtain ⟨k0_0, k0_1, f0_0, f0_1⟩ := box2 A0 (((hx1.alloc _).trans hx2).trans hx3)
    have z0 := (A0.ext (((hx1.alloc _).trans hx2).trans hx3)).lt
    obtain ⟨k1_0, k1_1, f1_0, f1_1⟩ := box2 A1 (((hx1.alloc _).trans hx2).trans hx3)
    have z1 := (A1.ext (((hx1.alloc _).trans hx2).trans hx3)).lt
    obtain ⟨k2_0, k2_1, f2_0, f2_1⟩ := box2 A2 (((hx1.alloc _).trans hx2).trans hx3)
    have z2 := (A2.ext (((hx1.alloc _).trans hx2).trans hx3)).lt
    obtain ⟨k3_0, k3_1, f3_0, f3_1⟩ := box2 A3 (((hx1.alloc _).trans hx2).trans hx3)
    have z3 := (A3.ext (((hx1.alloc _).trans hx2).trans hx3)).lt
    have hl3 := hr3.le
    have hl4 := hr4.le
    go_wp2_with fail
    refine (int_signed _ _ _ _ _ (by omega)).mono ?_
    rintro e w4 ⟨rfl, hx4⟩
    obtain ⟨k0_0, k0_1, f0_0, f0_1⟩ := box2 A0 ((((hx1.alloc _).trans hx2).trans hx3).trans hx4)
    have z0 := (A0.ext ((((hx1.alloc _).trans hx2).trans hx3).trans hx4)).lt
    obtain ⟨k1_0, k1_1, f1_0, f1_1⟩ := box2 A1 ((((hx1.alloc _).trans hx2).trans hx3).trans hx4)
    have z1 := (A1.ext ((((hx1.alloc _).trans hx2).trans hx3).trans hx4)).lt
    obtain ⟨k2_0, k2_1, f2_0, f2_1⟩ := box2 A2 ((((hx1.alloc _).trans hx2).trans hx3).trans hx4)
    have z2 := (A2.ext ((((hx1.alloc _).trans hx2).trans hx3).trans hx4)).lt
    obtain ⟨k3_0, k3_1, f3_0, f3_1⟩ := box2 A3 ((((hx1.alloc _).trans hx2).trans hx3).trans hx4)
    have z3 := (A3.ext ((((hx1.alloc _).trans hx2).trans hx3).trans hx4)).lt
    go_wp2_with fail
    refine (int_signed _ _ _ _ _ (by omega)).mono ?_
    rintro e w5 ⟨rfl, hx5⟩
    obtain ⟨k0_0, k0_1, f0_0, f0_1⟩ := box2 A0 (((((hx1.alloc _).trans hx2).trans hx3).trans hx4).trans hx5)
    have z0 := (A0.ext (((((hx1.alloc _).trans hx2).trans hx3).trans hx4).trans hx5)).lt
    obtain ⟨k1_0, k1_1, f1_0, f1_1⟩ := box2 A1 (((((hx1.alloc _).trans hx2).trans hx3).trans hx4).trans hx5)
    have z1 := (A1.ext (((((hx1.alloc _).trans hx2).trans hx3).trans hx4).trans hx5)).lt
    obtain ⟨k2_0, k2_1, f2_0, f2_1⟩ := box2 A2 (((((hx1.alloc _).trans hx2).trans hx3).trans hx4).trans hx5)
    have z2 := (A2.ext (((((hx1.alloc _).trans hx2).trans hx3).trans hx4).trans hx5)).lt
    obtain ⟨k3_0, k3_1, f3_0, f3_1⟩ := box2 A3 (((((hx1.alloc _).trans hx2).trans hx3).trans hx4).trans hx5)
    have z3 := (A3.ext (((((hx1.alloc _).trans hx2).trans hx3).trans hx4).trans hx5)).lt
    have sz1 : W.heap.size ≤ w1.heap.size := hx1.size
    have sz2 : W.heap.size ≤ w2.heap.size := ((hx1.alloc _).trans hx2).size
    have fin := fun w6 t6 => NewInts.of (w := w) (w3 := w6) (x := sgn true n / sgn t m) (y := sgn true n % sgn t m) E1.out E2.out (((hr3.ext hx3).ext hx4).ext hx5) (hf3.mono (by simp; omega)) ((hr4.ext hx4).ext hx5) (hf4.mono sz2) x0 (((((hx1.alloc _).trans hx2).trans hx3).trans hx4).trans hx5) t6
    go_wp2
    exact bodyPost_ret (by simp [results, Tryz.results215, go_sem, k2_0, k2_1, k3_0, k3_1]) rfl (fin _ ((Touch.two _ (by omega) (by rw [Z0.out]; omega) _ _).trans (Touch.two _ (by omega) (by rw [Z0.out]; omega) _ _)))
end Go.Proofs.YtgihpfkjpfanmaaGreat

/- Rational numbers in memory; contracts of rational.parts, rational.small, rational.quotient. -/
namespace Go.Proofs.YtgihpfkjpfanmaaGreat
open Go.RowKit

/-- A call returns a new rational number q, canonical. -/
def NewRat (q : Rat) (w : World) (e : Ending) (w' : World) : Prop := ∃ a c a' c', e = .returned (.agg #[.bool (decide (q.num < 0)), .slice a (len q.num.natAbs) c, .slice a' (len q.den) c']) ∧
  Raw w' a (len q.num.natAbs) c q.num.natAbs ∧ Fr w.heap.size a ∧ Raw w' a' (len q.den) c' q.den ∧ Fr w.heap.size a' ∧ Ext w w'

theorem NewRat.touch {q : Rat} {w W w2 w3 : World} {e : Ending} (h : NewRat q W e w2) (hW : Ext w W) (t : Touch w.heap.size W.heap.size w2 w3) : NewRat q w e w3 := by
  obtain ⟨a, c, a', c', he, hr, hf, hr', hf', hx⟩ := h
  exact ⟨a, c, a', c', he, hr.touch t hf.out, hf.mono hW.size, hr'.touch t hf'.out, hf'.mono hW.size, hW.touch hx t⟩

/-- What rational.parts returns: numerator and positive denominator. -/
def PartsOf (s : Bool) (n m : Nat) (w : World) (e : Ending) (w' : World) : Prop := ∃ s1 a1 k1 c1 n1 b1 j1 d1 m1, e = .returned (.tuple #[.agg #[.bool s1, .slice a1 k1 c1], .slice b1 j1 d1]) ∧
  Raw w' a1 k1 c1 n1 ∧ Raw w' b1 j1 d1 m1 ∧ 0 < m1 ∧ mkRat (sgn s1 n1) m1 = mkRat (sgn s n) m ∧ len n1 ≤ len n ∧ len m1 ≤ len m + 1 ∧ Ext w w'

theorem raw_one (w : World) : Raw (w.alloc (Obj.cells #[.int .u32 1] 122)) (some ⟨w.heap.size, 0, none⟩) 1 1 1 :=
  ⟨[1], rfl, rfl, (Arr.alloc w 122 (u32s [1])).limbs (Small.one (by decide)) (by simp)⟩
theorem len1 : len 1 = 1 := len_one (by decide) (by decide)

set_option maxHeartbeats 400000 in
/-- rational.parts. -/
theorem rat_parts (w : World) (s : Bool) (a b : Option Addr) (k c j d n m : Nat) (h : Raw w a k c n) (g : Raw w b j d m) :
    Calls Tryz.prog 132 #[.agg #[.bool s, .slice a k c, .slice b j d]] w (PartsOf s n m w) := by
  by_cases hm : m = 0
  · subst hm
    have hc : cmpN 0 0 = 0 := rfl
    go_enter Tryz.func132, Tryz.ntmps132
    go_wp2_with fail
    obtain ⟨W, hW, x0, Z0, A0, A1⟩ := boxes2 w 55 [.bool s, .slice a k c, .slice b j d] 53 [.bool false, .slice none 0 0]
    rw [← hW]
    clear hW
    obtain ⟨k0_0, k0_1, k0_2, f0_0, f0_1, f0_2⟩ := box3 A0 (Ext.refl _)
    have z0 := (A0.ext (Ext.refl _)).lt
    obtain ⟨k1_0, k1_1, f1_0, f1_1⟩ := box2 A1 (Ext.refl _)
    have z1 := (A1.ext (Ext.refl _)).lt
    refine (nat_Compare _ _ _ _ _ _ _ _ _ (g.ext x0) (Raw.nil _)).mono ?_
    rintro e w1 ⟨rfl, hq1⟩
    rw [hc]
    obtain ⟨k0_0, k0_1, k0_2, f0_0, f0_1, f0_2⟩ := box3 A0 hq1.ext
    have z0 := (A0.ext hq1.ext).lt
    obtain ⟨k1_0, k1_1, f1_0, f1_1⟩ := box2 A1 hq1.ext
    have z1 := (A1.ext hq1.ext).lt
    go_wp2
    refine bodyPost_ret (v := .tuple #[.agg #[.bool false, .slice none 0 0], .slice (some ⟨w1.heap.size, 0, none⟩) 1 1]) (by simp [results, Tryz.results132, go_sem, k1_0, k1_1, z1]) rfl ?_
    refine ⟨false, none, 0, 0, 0, some ⟨w1.heap.size, 0, none⟩, 1, 1, 1, rfl, Raw.nil _, ?_, by omega, by simp [sgn], by rw [len_zero]; omega, by rw [len1]; omega, ?_⟩
    · have := raw_one ((w1.setCell ⟨w.heap.size + 1, 0, none⟩ (.bool false)).setCell ⟨w.heap.size + 1, 1, none⟩ (.slice none 0 0)); simpa using this
    · refine Ext.alloc (Ext.setCell (Ext.setCell (x0.trans hq1.ext) ?_ _) ?_ _) _ <;> simp
  · have hc : cmpN m 0 = 1 := by unfold cmpN; rw [if_neg (by omega), if_neg hm]
    have HC := Lib.hid hc; clear hc
    go_enter Tryz.func132, Tryz.ntmps132
    go_wp2_with fail
    obtain ⟨W, hW, x0, Z0, A0, A1⟩ := boxes2 w 55 [.bool s, .slice a k c, .slice b j d] 53 [.bool false, .slice none 0 0]
    rw [← hW]
    clear hW
    obtain ⟨k0_0, k0_1, k0_2, f0_0, f0_1, f0_2⟩ := box3 A0 (Ext.refl _)
    have z0 := (A0.ext (Ext.refl _)).lt
    obtain ⟨k1_0, k1_1, f1_0, f1_1⟩ := box2 A1 (Ext.refl _)
    have z1 := (A1.ext (Ext.refl _)).lt
    refine (nat_Compare _ _ _ _ _ _ _ _ _ (g.ext x0) (Raw.nil _)).mono ?_
    rintro e w1 ⟨rfl, hq1⟩
    rw [HC.out]
    obtain ⟨k0_0, k0_1, k0_2, f0_0, f0_1, f0_2⟩ := box3 A0 hq1.ext
    have z0 := (A0.ext hq1.ext).lt
    obtain ⟨k1_0, k1_1, f1_0, f1_1⟩ := box2 A1 hq1.ext
    have z1 := (A1.ext hq1.ext).lt
    go_wp2
    go_region
    go_wp2
    refine bodyPost_ret (v := .tuple #[.agg #[.bool s, .slice a k c], .slice b j d]) (by simp [results, Tryz.results132, go_sem, k1_0, k1_1]) rfl ?_
    have hx : Ext w ((w1.setCell ⟨w.heap.size + 1, 0, none⟩ (.bool s)).setCell ⟨w.heap.size + 1, 1, none⟩ (.slice a k c)).drew := (((x0.trans hq1.ext).setCell (by simp) _).setCell (by simp) _).drew
    exact ⟨s, a, k, c, n, b, j, d, m, rfl, h.ext hx, g.ext hx, by omega, rfl, Nat.le_refl _, by omega, hx⟩

set_option maxRecDepth 100000 in
/-- rational.small says no. -/
theorem rat_small_no (w : World) (s : Bool) (a b : Option Addr) (k c j d n m : Nat) (h : Raw w a k c n) (g : Raw w b j d m) (hbig : ¬ (n < 2147483648 ∧ m < 2147483648)) :
    Calls Tryz.prog 130 #[.agg #[.bool s, .slice a k c, .slice b j d]] w fun e w' => e = .returned (.tuple #[.int .i64 0, .int .i64 0, .bool false]) ∧ Ext w w' := by
  by_cases hn : n < 18446744073709551616
  · by_cases hm : m < 18446744073709551616
    · by_cases hn1 : n < 2147483648
      · have hm1 : (2147483648 : Int) ≤ (m : Int) := by omega
        have dn : decide ((2147483648 : Int) ≤ (n : Int)) = false := decide_eq_false (by omega)
        have HN := Lib.hid hn; have HN1 := Lib.hid hn1; clear hn1 hn
        clear hbig
        go_enter Tryz.func130, Tryz.ntmps130
        go_wp2_with fail
        refine (nat_Uint64_yes _ _ _ _ _ (h.ext ((Ext.refl _).alloc _)) HN.out).mono ?_
        rintro e w1 ⟨rfl, rfl⟩
        go_wp2_with fail
        refine (nat_Uint64_yes _ _ _ _ _ (g.ext ((Ext.refl _).alloc _)) hm).mono ?_
        rintro e w1 ⟨rfl, rfl⟩
        go_wp2
        go_ret3
        exact ⟨rfl, (Ext.refl _).alloc _⟩
      · have hn2 : (2147483648 : Int) ≤ (n : Int) := by omega
        clear hbig
        go_enter Tryz.func130, Tryz.ntmps130
        go_wp2_with fail
        refine (nat_Uint64_yes _ _ _ _ _ (h.ext ((Ext.refl _).alloc _)) hn).mono ?_
        rintro e w1 ⟨rfl, rfl⟩
        go_wp2_with fail
        refine (nat_Uint64_yes _ _ _ _ _ (g.ext ((Ext.refl _).alloc _)) hm).mono ?_
        rintro e w1 ⟨rfl, rfl⟩
        go_wp2
        go_ret3
        exact ⟨rfl, (Ext.refl _).alloc _⟩
    · clear hbig
      go_enter Tryz.func130, Tryz.ntmps130
      go_wp2_with fail
      refine (nat_Uint64_yes _ _ _ _ _ (h.ext ((Ext.refl _).alloc _)) hn).mono ?_
      rintro e w1 ⟨rfl, rfl⟩
      go_wp2_with fail
      refine (nat_Uint64_no _ _ _ _ _ (g.ext ((Ext.refl _).alloc _)) (by omega)).mono ?_
      rintro e w1 ⟨rfl, rfl⟩
      go_wp2
      go_ret3
      exact ⟨rfl, (Ext.refl _).alloc _⟩
  · clear hbig
    by_cases hm : m < 18446744073709551616
    · go_enter Tryz.func130, Tryz.ntmps130
      go_wp2_with fail
      refine (nat_Uint64_no _ _ _ _ _ (h.ext ((Ext.refl _).alloc _)) (by omega)).mono ?_
      rintro e w1 ⟨rfl, rfl⟩
      go_wp2_with fail
      refine (nat_Uint64_yes _ _ _ _ _ (g.ext ((Ext.refl _).alloc _)) hm).mono ?_
      rintro e w1 ⟨rfl, rfl⟩
      go_wp2
      go_ret3
      exact ⟨rfl, (Ext.refl _).alloc _⟩
    · go_enter Tryz.func130, Tryz.ntmps130
      go_wp2_with fail
      refine (nat_Uint64_no _ _ _ _ _ (h.ext ((Ext.refl _).alloc _)) (by omega)).mono ?_
      rintro e w1 ⟨rfl, rfl⟩
      go_wp2_with fail
      refine (nat_Uint64_no _ _ _ _ _ (g.ext ((Ext.refl _).alloc _)) (by omega)).mono ?_
      rintro e w1 ⟨rfl, rfl⟩
      go_wp2
      go_ret3
      exact ⟨rfl, (Ext.refl _).alloc _⟩

/-- What rational.small returns of a small number. -/
def SmallOf (s : Bool) (n m : Nat) (w : World) (e : Ending) (w' : World) : Prop := ∃ (x : Int) (y : Nat), e = .returned (.tuple #[.int .i64 x, .int .i64 (y : Nat), .bool true]) ∧
  -2147483648 < x ∧ x < 2147483648 ∧ 0 < y ∧ y < 2147483648 ∧ mkRat x y = mkRat (sgn s n) m ∧ Ext w w'

set_option maxRecDepth 100000 in
/-- rational.small says yes. -/
theorem rat_small (w : World) (s : Bool) (a b : Option Addr) (k c j d n m : Nat) (h : Raw w a k c n) (g : Raw w b j d m) (hn : n < 2147483648) (hm : m < 2147483648) :
    Calls Tryz.prog 130 #[.agg #[.bool s, .slice a k c, .slice b j d]] w (SmallOf s n m w) := by
  have dn : decide ((2147483648 : Int) ≤ (n : Int)) = false := decide_eq_false (by omega)
  have dm : decide ((2147483648 : Int) ≤ (m : Int)) = false := decide_eq_false (by omega)
  have hn3 : n < 3000000000 := by omega
  have hm3 : m < 3000000000 := by omega
  have HN := Lib.hid hn; have HM := Lib.hid hm; clear hn hm
  by_cases h0 : m = 0
  · subst h0
    go_enter Tryz.func130, Tryz.ntmps130
    go_wp2_with fail
    refine (nat_Uint64_yes _ _ _ _ _ (h.ext ((Ext.refl _).alloc _)) (by have := HN.out; omega)).mono ?_
    rintro e w1 ⟨rfl, rfl⟩
    go_wp2_with fail
    refine (nat_Uint64_yes _ _ _ _ _ (g.ext ((Ext.refl _).alloc _)) (by have := HM.out; omega)).mono ?_
    rintro e w1 ⟨rfl, rfl⟩
    go_wp2
    go_ret3
    exact ⟨0, 1, rfl, by omega, by omega, by omega, by omega, by simp, (Ext.refl _).alloc _⟩
  · have hm0 : ((m : Int) == 0) = false := by rw [beq_eq_false_iff_ne]; omega
    cases s
    · go_enter Tryz.func130, Tryz.ntmps130
      go_wp2_with fail
      refine (nat_Uint64_yes _ _ _ _ _ (h.ext ((Ext.refl _).alloc _)) (by have := HN.out; omega)).mono ?_
      rintro e w1 ⟨rfl, rfl⟩
      go_wp2_with fail
      refine (nat_Uint64_yes _ _ _ _ _ (g.ext ((Ext.refl _).alloc _)) (by have := HM.out; omega)).mono ?_
      rintro e w1 ⟨rfl, rfl⟩
      go_wp2
      go_ret3
      have hn := HN.out; have hm := HM.out
      exact ⟨n, m, rfl, by omega, by omega, by omega, by omega, rfl, (Ext.refl _).alloc _⟩
    · go_enter Tryz.func130, Tryz.ntmps130
      go_wp2_with fail
      refine (nat_Uint64_yes _ _ _ _ _ (h.ext ((Ext.refl _).alloc _)) (by have := HN.out; omega)).mono ?_
      rintro e w1 ⟨rfl, rfl⟩
      go_wp2_with fail
      refine (nat_Uint64_yes _ _ _ _ _ (g.ext ((Ext.refl _).alloc _)) (by have := HM.out; omega)).mono ?_
      rintro e w1 ⟨rfl, rfl⟩
      go_wp2
      go_ret3
      have hn := HN.out; have hm := HM.out
      exact ⟨-(n : Int), m, rfl, by omega, by omega, by omega, by omega, rfl, (Ext.refl _).alloc _⟩

end Go.Proofs.YtgihpfkjpfanmaaGreat

/- Contract of rational.quotient. -/
namespace Go.Proofs.YtgihpfkjpfanmaaGreat
open Go.RowKit

theorem mkRat_num_natAbs (x : Int) (y : Nat) (h : 0 < y) : (mkRat x y).num.natAbs = x.natAbs / Nat.gcd y x.natAbs := by
  rw [Rat.num_mkRat, if_neg (by omega), Int.natAbs_ediv_of_dvd (Int.ofNat_dvd_left.2 (Nat.gcd_dvd_right _ _)), Int.natAbs_natCast]
theorem mkRat_den' (x : Int) (y : Nat) (h : 0 < y) : (mkRat x y).den = y / Nat.gcd y x.natAbs := by
  rw [Rat.den_mkRat, if_neg (by omega)]
theorem mkRat_num_neg (x : Int) (y : Nat) (h : 0 < y) : decide ((mkRat x y).num < 0) = decide (x < 0) := by
  rw [Rat.num_mkRat, if_neg (by omega)]
  have hg : (0 : Int) < (Nat.gcd y x.natAbs : Nat) := by have := Nat.gcd_pos_of_pos_left x.natAbs h; omega
  have : x / (Nat.gcd y x.natAbs : Nat) < 0 ↔ x < 0 := by
    constructor
    · intro h1
      apply Int.not_le.1; intro h2
      have := Int.ediv_nonneg h2 (Int.le_of_lt hg); omega
    · intro h1; exact Int.ediv_neg_of_neg_of_pos h1 hg
  simp only [this]

/-- What is stored of two new lists of limbs. -/
theorem NewRat.of_parts {w W w2 w3 : World} {a a' : Option Addr} {c c' : Nat} {q : Rat} {n m : Nat} {s : Bool} (hn : q.num.natAbs = n) (hm : q.den = m) (hs : decide (q.num < 0) = s)
    (h : Raw w2 a (len n) c n) (hf : Fr W.heap.size a) (h' : Raw w2 a' (len m) c' m) (hf' : Fr W.heap.size a') (hW : Ext w W) (h2 : Ext W w2)
    (t : Touch w.heap.size W.heap.size w2 w3) : NewRat q w (.returned (.agg #[.bool s, .slice a (len n) c, .slice a' (len m) c'])) w3 := by
  subst hn; subst hm; subst hs
  exact ⟨a, c, a', c', rfl, h.touch t hf.out, hf.mono hW.size, h'.touch t hf'.out, hf'.mono hW.size, hW.touch h2 t⟩

theorem wrap_abs (x : Int) (h1 : -9223372036854775808 < x) (h2 : x < 0) : IntKind.u64.wrap (-IntKind.u64.wrap x) = ((x.natAbs : Nat) : Int) := by
  rw [IntKind.wrap_u64, IntKind.wrap_u64]; omega
theorem wrap_pos (x : Int) (h1 : x < 9223372036854775808) (h2 : ¬ x < 0) : IntKind.u64.wrap x = ((x.natAbs : Nat) : Int) := by
  rw [IntKind.wrap_u64]; omega

set_option maxHeartbeats 2000000 in
set_option maxRecDepth 100000 in
/-- rational.quotient of a negative number. -/
theorem rat_quotient_neg (w : World) (x : Int) (y : Nat) (hx1 : -9223372036854775808 < x) (hx2 : x < 0) (hy0 : 0 < y) (hy : y < 9223372036854775808) :
    Calls Tryz.prog 155 #[.int .i64 x, .int .i64 (y : Nat)] w (NewRat (mkRat x y) w) := by
  have ew := wrap_abs x hx1 hx2
  go_enter Tryz.func155, Tryz.ntmps155
  go_wp2
  obtain ⟨W, hW, x0, Z0, A0⟩ := boxes1 w 55 [.bool false, .slice none 0 0, .slice none 0 0]
  rw [← hW]
  clear hW
  obtain ⟨k0_0, k0_1, k0_2, f0_0, f0_1, f0_2⟩ := box3 A0 (Ext.refl _)
  have z0 := (A0.ext (Ext.refl _)).lt
  go_loopw [6, 7] (fun gg rr wr => ∃ (p r : Nat), 0 < p ∧ p < 9223372036854775808 ∧ r < 9223372036854775808 ∧ Hid (Nat.gcd p r = Nat.gcd y x.natAbs) ∧ Quiet W wr ∧ gg = .int .u64 p ∧ rr = .int .u64 r) (fun _ rr _ => (intOf rr).toNat)
  case atStart => exact ⟨y, x.natAbs, by omega, by omega, by omega, rfl, Quiet.refl _, rfl, rfl⟩
  case round =>
    obtain ⟨p, r, hp0, hp, hr, hg, hq, rfl, rfl⟩ := hrel
    by_cases hr0 : r = 0
    · subst hr0
      have hgp : p = Nat.gcd y x.natAbs := by have := hg.out; rwa [Nat.gcd_zero_right] at this
      have q1 := mkRat_num_natAbs x y hy0
      have q2 := mkRat_den' x y hy0
      have q3 := mkRat_num_neg x y hy0
      rw [← hgp] at q1 q2
      have l1 : x.natAbs / p ≤ x.natAbs := Nat.div_le_self _ _
      have l2 : y / p ≤ y := Nat.div_le_self _ _
      have e1 : IntKind.u64.wrap (((x.natAbs : Nat) : Int) / (p : Int)) = ((x.natAbs / p : Nat) : Int) := by
        rw [IntKind.wrap_u64, ← Int.natCast_ediv]; generalize x.natAbs / p = z at *; omega
      have e2 : IntKind.u64.wrap ((y : Int) / (p : Int)) = ((y / p : Nat) : Int) := by
        rw [IntKind.wrap_u64, ← Int.natCast_ediv]; generalize y / p = z at *; omega
      have e1' : ((x.natAbs : Nat) : Int) / (p : Int) = ((x.natAbs / p : Nat) : Int) := (Int.natCast_ediv _ _).symm
      have e2' : (y : Int) / (p : Int) = ((y / p : Nat) : Int) := (Int.natCast_ediv _ _).symm
      have e1'' : IntKind.u64.wrap ((x.natAbs / p : Nat) : Int) = ((x.natAbs / p : Nat) : Int) := by
        rw [IntKind.wrap_u64]; generalize x.natAbs / p = z at *; omega
      have e2'' : IntKind.u64.wrap ((y / p : Nat) : Int) = ((y / p : Nat) : Int) := by
        rw [IntKind.wrap_u64]; generalize y / p = z at *; omega
      have b1 : x.natAbs / p < 18446744073709551616 := by omega
      have b2 : y / p < 18446744073709551616 := by omega
      clear hgp hg l1 l2
      generalize x.natAbs / p = u at *
      generalize y / p = v at *
      generalize hQ : mkRat x y = Q at *
      have Q1 := Lib.hid q1; have Q2 := Lib.hid q2; have Q3 := Lib.hid q3; have HQ := Lib.hid hQ
      clear q1 q2 q3 hQ
      have hpi : ((p : Int) == 0) = false := by rw [beq_eq_false_iff_ne]; omega
      have h1p : (1 : Int) ≤ (p : Int) := by omega
      have hpne : ((p : Nat) : Int) ≠ 0 := by omega
      obtain ⟨k0_0, k0_1, k0_2, f0_0, f0_1, f0_2⟩ := box3 A0 hq.ext
      have z0 := (A0.ext hq.ext).lt
      have tok1 : True := trivial
      go_wp2
      go_region_with (first
        | (go_at_call 211; have _t := tok1; refine (nat_FromUint64 _ _ (by assumption)).mono ?_; rintro e w1 ⟨a1, c1, rfl, hr1, hf1, hx3⟩; clear tok1 _t; obtain ⟨k0_0, k0_1, k0_2, f0_0, f0_1, f0_2⟩ := box3 A0 ((hq.ext.drew).trans hx3); have z0 := (A0.ext ((hq.ext.drew).trans hx3)).lt)
        | (go_at_call 211; refine (nat_FromUint64 _ _ (by assumption)).mono ?_; rintro e w2 ⟨a2, c2, rfl, hr2, hf2, hx4⟩; obtain ⟨k0_0, k0_1, k0_2, f0_0, f0_1, f0_2⟩ := box3 A0 (((hq.ext.drew).trans hx3).trans hx4); have z0 := (A0.ext (((hq.ext.drew).trans hx3).trans hx4)).lt))
      all_goals go_wp2
      all_goals exact bodyPost_ret (by simp [results, Tryz.results155, go_sem, k0_0, k0_1, k0_2, hx2]) rfl (NewRat.of_parts (s := decide (x < 0)) Q1.out Q2.out Q3.out (hr1.ext hx4) (hf1.mono hq.ext.size) hr2 (hf2.mono (Nat.le_trans hq.ext.size hx3.size)) x0 ((hq.ext.drew.trans hx3).trans hx4) (Touch.three _ (Nat.le_refl _) (by rw [Z0.out]; omega) _ _ _))
    · have hrb : (((r : Nat) : Int) != 0) = true := by rw [bne_iff_ne]; omega
      have e3 : (p : Int).tmod (r : Int) = ((p % r : Nat) : Int) := by rw [Int.tmod_eq_emod_of_nonneg (by omega), Int.natCast_emod]
      have hri : ((r : Int) == 0) = false := by rw [beq_eq_false_iff_ne]; omega
      have h1r : (1 : Int) ≤ (r : Int) := by omega
      have hlt := Nat.mod_lt p (Nat.pos_of_ne_zero hr0)
      have hgg : Nat.gcd r (p % r) = Nat.gcd p r := by rw [Nat.gcd_comm r, ← Nat.gcd_rec, Nat.gcd_comm]
      have HG := Lib.hid hgg; clear hgg
      go_wp2
      go_quiet (fail)
      go_wp2
      go_roundw
      case rel => exact ⟨r, p % r, by omega, by omega, by omega, HG.out.trans hg.out, hq.drewN _, rfl, rfl⟩
      case measure => simp [intOf]; omega

set_option maxHeartbeats 2000000 in
set_option maxRecDepth 100000 in
/-- rational.quotient of a number that is not negative. -/
theorem rat_quotient_pos (w : World) (x : Int) (y : Nat) (hx1 : x < 9223372036854775808) (hx2 : ¬ x < 0) (hy0 : 0 < y) (hy : y < 9223372036854775808) :
    Calls Tryz.prog 155 #[.int .i64 x, .int .i64 (y : Nat)] w (NewRat (mkRat x y) w) := by
  have ew := wrap_pos x hx1 hx2
  go_enter Tryz.func155, Tryz.ntmps155
  go_wp2
  obtain ⟨W, hW, x0, Z0, A0⟩ := boxes1 w 55 [.bool false, .slice none 0 0, .slice none 0 0]
  rw [← hW]
  clear hW
  obtain ⟨k0_0, k0_1, k0_2, f0_0, f0_1, f0_2⟩ := box3 A0 (Ext.refl _)
  have z0 := (A0.ext (Ext.refl _)).lt
  go_loopw [6, 7] (fun gg rr wr => ∃ (p r : Nat), 0 < p ∧ p < 9223372036854775808 ∧ r < 9223372036854775808 ∧ Hid (Nat.gcd p r = Nat.gcd y x.natAbs) ∧ Quiet W wr ∧ gg = .int .u64 p ∧ rr = .int .u64 r) (fun _ rr _ => (intOf rr).toNat)
  case atStart => exact ⟨y, x.natAbs, by omega, by omega, by omega, rfl, Quiet.refl _, rfl, rfl⟩
  case round =>
    obtain ⟨p, r, hp0, hp, hr, hg, hq, rfl, rfl⟩ := hrel
    by_cases hr0 : r = 0
    · subst hr0
      have hgp : p = Nat.gcd y x.natAbs := by have := hg.out; rwa [Nat.gcd_zero_right] at this
      have q1 := mkRat_num_natAbs x y hy0
      have q2 := mkRat_den' x y hy0
      have q3 := mkRat_num_neg x y hy0
      rw [← hgp] at q1 q2
      have l1 : x.natAbs / p ≤ x.natAbs := Nat.div_le_self _ _
      have l2 : y / p ≤ y := Nat.div_le_self _ _
      have e1 : IntKind.u64.wrap (((x.natAbs : Nat) : Int) / (p : Int)) = ((x.natAbs / p : Nat) : Int) := by
        rw [IntKind.wrap_u64, ← Int.natCast_ediv]; generalize x.natAbs / p = z at *; omega
      have e2 : IntKind.u64.wrap ((y : Int) / (p : Int)) = ((y / p : Nat) : Int) := by
        rw [IntKind.wrap_u64, ← Int.natCast_ediv]; generalize y / p = z at *; omega
      have e1' : ((x.natAbs : Nat) : Int) / (p : Int) = ((x.natAbs / p : Nat) : Int) := (Int.natCast_ediv _ _).symm
      have e2' : (y : Int) / (p : Int) = ((y / p : Nat) : Int) := (Int.natCast_ediv _ _).symm
      have e1'' : IntKind.u64.wrap ((x.natAbs / p : Nat) : Int) = ((x.natAbs / p : Nat) : Int) := by
        rw [IntKind.wrap_u64]; generalize x.natAbs / p = z at *; omega
      have e2'' : IntKind.u64.wrap ((y / p : Nat) : Int) = ((y / p : Nat) : Int) := by
        rw [IntKind.wrap_u64]; generalize y / p = z at *; omega
      have b1 : x.natAbs / p < 18446744073709551616 := by omega
      have b2 : y / p < 18446744073709551616 := by omega
      clear hgp hg l1 l2
      generalize x.natAbs / p = u at *
      generalize y / p = v at *
      generalize hQ : mkRat x y = Q at *
      have Q1 := Lib.hid q1; have Q2 := Lib.hid q2; have Q3 := Lib.hid q3; have HQ := Lib.hid hQ
      clear q1 q2 q3 hQ
      have hpi : ((p : Int) == 0) = false := by rw [beq_eq_false_iff_ne]; omega
      have h1p : (1 : Int) ≤ (p : Int) := by omega
      have hpne : ((p : Nat) : Int) ≠ 0 := by omega
      obtain ⟨k0_0, k0_1, k0_2, f0_0, f0_1, f0_2⟩ := box3 A0 hq.ext
      have z0 := (A0.ext hq.ext).lt
      have tok1 : True := trivial
      go_wp2
      go_region_with (first
        | (go_at_call 211; have _t := tok1; refine (nat_FromUint64 _ _ (by assumption)).mono ?_; rintro e w1 ⟨a1, c1, rfl, hr1, hf1, hx3⟩; clear tok1 _t; obtain ⟨k0_0, k0_1, k0_2, f0_0, f0_1, f0_2⟩ := box3 A0 ((hq.ext.drew).trans hx3); have z0 := (A0.ext ((hq.ext.drew).trans hx3)).lt)
        | (go_at_call 211; refine (nat_FromUint64 _ _ (by assumption)).mono ?_; rintro e w2 ⟨a2, c2, rfl, hr2, hf2, hx4⟩; obtain ⟨k0_0, k0_1, k0_2, f0_0, f0_1, f0_2⟩ := box3 A0 (((hq.ext.drew).trans hx3).trans hx4); have z0 := (A0.ext (((hq.ext.drew).trans hx3).trans hx4)).lt))
      all_goals go_wp2
      all_goals exact bodyPost_ret (by simp [results, Tryz.results155, go_sem, k0_0, k0_1, k0_2]) rfl (NewRat.of_parts (s := decide (x < 0)) Q1.out Q2.out Q3.out (hr1.ext hx4) (hf1.mono hq.ext.size) hr2 (hf2.mono (Nat.le_trans hq.ext.size hx3.size)) x0 ((hq.ext.drew.trans hx3).trans hx4) (Touch.three _ (Nat.le_refl _) (by rw [Z0.out]; omega) _ _ _))
    · have hrb : (((r : Nat) : Int) != 0) = true := by rw [bne_iff_ne]; omega
      have e3 : (p : Int).tmod (r : Int) = ((p % r : Nat) : Int) := by rw [Int.tmod_eq_emod_of_nonneg (by omega), Int.natCast_emod]
      have hri : ((r : Int) == 0) = false := by rw [beq_eq_false_iff_ne]; omega
      have h1r : (1 : Int) ≤ (r : Int) := by omega
      have hlt := Nat.mod_lt p (Nat.pos_of_ne_zero hr0)
      have hgg : Nat.gcd r (p % r) = Nat.gcd p r := by rw [Nat.gcd_comm r, ← Nat.gcd_rec, Nat.gcd_comm]
      have HG := Lib.hid hgg; clear hgg
      go_wp2
      go_quiet (fail)
      go_wp2
      go_roundw
      case rel => exact ⟨r, p % r, by omega, by omega, by omega, HG.out.trans hg.out, hq.drewN _, rfl, rfl⟩
      case measure => simp [intOf]; omega

/-- rational.quotient. -/
theorem rat_quotient (w : World) (x : Int) (y : Nat) (h1 : -9223372036854775808 < x) (h2 : x < 9223372036854775808) (hy0 : 0 < y) (hy : y < 9223372036854775808) :
    Calls Tryz.prog 155 #[.int .i64 x, .int .i64 (y : Nat)] w (NewRat (mkRat x y) w) := by
  by_cases h : x < 0
  · exact rat_quotient_neg w x y h1 h hy0 hy
  · exact rat_quotient_pos w x y h2 h hy0 hy
end Go.Proofs.YtgihpfkjpfanmaaGreat

/- Contracts of rational.lowest, Norm, FromInt, Sign. -/
namespace Go.Proofs.YtgihpfkjpfanmaaGreat
open Go.RowKit

/-- integer.Norm, the magnitude written out. -/
theorem int_Norm' (w : World) (s : Bool) (a : Option Addr) (k c n : Nat) (h : Raw w a k c n) :
    Calls Tryz.prog 218 #[.agg #[.bool s, .slice a k c]] w fun e w' => ∃ a1 c1, e = .returned (.agg #[.bool (decide (sgn s n < 0)), .slice a1 (len n) c1]) ∧ Raw w' a1 (len n) c1 n ∧ Fr w.heap.size a1 ∧ Ext w w' :=
  (int_Norm w s a k c n h).mono fun _ _ ⟨a1, c1, he, hr, hf, hx⟩ => ⟨a1, c1, by rw [he, sgn_natAbs], by rw [sgn_natAbs] at hr; exact hr, hf, hx⟩

/-- A rational number in the cells of the result. -/
theorem NewRat.of2 {w w3 : World} {a a' : Option Addr} {c c' : Nat} {q : Rat} {n m : Nat} {s : Bool} (hn : q.num.natAbs = n) (hm : q.den = m) (hs : decide (q.num < 0) = s)
    (h : Raw w3 a (len n) c n) (hf : Fr w.heap.size a) (h' : Raw w3 a' (len m) c' m) (hf' : Fr w.heap.size a') (hE : Ext w w3) : NewRat q w (.returned (.agg #[.bool s, .slice a (len n) c, .slice a' (len m) c'])) w3 := by
  subst hn; subst hm; subst hs
  exact ⟨a, c, a', c', rfl, h, hf, h', hf', hE⟩
theorem Ext.set3 {a w : World} (h : Ext a w) {b : Nat} (hb : a.heap.size ≤ b) (v0 v1 v2 : Value) : Ext a (((w.setCell ⟨b, 0, none⟩ v0).setCell ⟨b, 1, none⟩ v1).setCell ⟨b, 2, none⟩ v2) := ((h.setCell hb _).setCell hb _).setCell hb _
theorem Ext.set2 {a w : World} (h : Ext a w) {b : Nat} (hb : a.heap.size ≤ b) (v0 v1 : Value) : Ext a ((w.setCell ⟨b, 0, none⟩ v0).setCell ⟨b, 1, none⟩ v1) := (h.setCell hb _).setCell hb _

theorem zero_num_neg : decide ((0 : Rat).num < 0) = false := rfl

set_option maxHeartbeats 2000000 in
set_option maxRecDepth 100000 in
/-- rational.lowest. -/
theorem rat_lowest (w : World) (s : Bool) (a b : Option Addr) (k c j d n m : Nat) (h : Raw w a k c n) (g : Raw w b j d m) (hm : 0 < m) (b1 : len n < 400000000) (b2 : len m < 400000000) :
    Calls Tryz.prog 156 #[.agg #[.bool s, .slice a k c], .slice b j d] w (NewRat (mkRat (sgn s n) m) w) := by
  go_enter Tryz.func156, Tryz.ntmps156
  go_wp2_with fail
  obtain ⟨W, hW, x0, Z0, A0, A1⟩ := boxes2 w 53 [.bool s, .slice a k c] 55 [.bool false, .slice none 0 0, .slice none 0 0]
  rw [← hW]
  clear hW
  obtain ⟨k0_0, k0_1, f0_0, f0_1⟩ := box2 A0 (Ext.refl _)
  have z0 := (A0.ext (Ext.refl _)).lt
  obtain ⟨k1_0, k1_1, k1_2, f1_0, f1_1, f1_2⟩ := box3 A1 (Ext.refl _)
  have z1 := (A1.ext (Ext.refl _)).lt
  refine (int_Norm' _ _ _ _ _ _ (h.ext x0)).mono ?_
  rintro e w1 ⟨a1, c1, rfl, hr1, hf1, hx1⟩
  obtain ⟨k0_0, k0_1, f0_0, f0_1⟩ := box2 A0 hx1
  have z0 := (A0.ext hx1).lt
  obtain ⟨k1_0, k1_1, k1_2, f1_0, f1_1, f1_2⟩ := box3 A1 hx1
  have z1 := (A1.ext hx1).lt
  go_wp2_with fail
  refine (nat_Trim _ _ _ _ _ ((g.ext x0).ext hx1)).mono ?_
  rintro e w2 ⟨a2, c2, rfl, hr2, hf2, hx2⟩
  obtain ⟨k0_0, k0_1, f0_0, f0_1⟩ := box2 A0 (hx1.trans hx2)
  have z0 := (A0.ext (hx1.trans hx2)).lt
  obtain ⟨k1_0, k1_1, k1_2, f1_0, f1_1, f1_2⟩ := box3 A1 (hx1.trans hx2)
  have z1 := (A1.ext (hx1.trans hx2)).lt
  have y2 : Ext W w2 := hx1.trans hx2
  have F2 : Fr W.heap.size a2 := hf2.mono hx1.size
  by_cases h0 : n = 0
  · subst h0
    have eq0 : mkRat (sgn s 0) m = 0 := by rw [sgn_zero, Rat.zero_mkRat]
    have EQ0 := Lib.hid eq0; clear eq0
    have es : decide (sgn s 0 < 0) = false := by rw [sgn_zero]; rfl
    go_wp2
    refine bodyPost_ret (v := .agg #[.bool false, .slice none 0 0, .slice (some ⟨w2.heap.size, 0, none⟩) 1 1]) (by simp [results, Tryz.results156, go_sem, *]) rfl ?_
    rw [EQ0.out]
    refine ⟨none, 0, some ⟨w2.heap.size, 0, none⟩, 1, by rw [show (0 : Rat).den = 1 from rfl, len1]; rfl, Raw.nil _, Fr.none _, ?_, Fr.some (x0.trans y2).size, ?_⟩
    · rw [show (0 : Rat).den = 1 from rfl, len1]
      have := raw_one (((((w2.setCell ⟨w.heap.size, 0, none⟩ (.bool false)).setCell ⟨w.heap.size, 1, none⟩ (.slice a1 (len 0) c1)).setCell ⟨w.heap.size + 1, 0, none⟩ (.bool false)).setCell ⟨w.heap.size + 1, 1, none⟩ (.slice none 0 0)).setCell ⟨w.heap.size + 1, 2, none⟩ (.slice (some ⟨w2.heap.size, 0, none⟩) 1 1))
      simpa using this
    · refine Ext.alloc (Ext.setCell (Ext.setCell (Ext.setCell (Ext.setCell (Ext.setCell (x0.trans y2) ?_ _) ?_ _) ?_ _) ?_ _) ?_ _) _ <;> simp
  · have hn0 : (((len n : Nat) : Int) == 0) = false := by rw [beq_eq_false_iff_ne]; have := len_pos.2 (Nat.pos_of_ne_zero h0); omega
    go_wp2_with fail
    obtain ⟨w3, hw3⟩ : ∃ w3, w3 = ((w2.setCell ⟨w.heap.size, 0, none⟩ (.bool (decide (sgn s n < 0)))).setCell ⟨w.heap.size, 1, none⟩ (.slice a1 (len n) c1)) := ⟨_, rfl⟩
    rw [← hw3]
    have T3 : Touch w.heap.size W.heap.size w2 w3 := by rw [hw3]; exact Touch.two _ (Nat.le_refl _) (by rw [Z0.out]; omega) _ _
    have B0 : Arr w3 w.heap.size 53 [.bool (decide (sgn s n < 0)), .slice a1 (len n) c1] := by rw [hw3]; exact ((A0.ext y2).set 0 _).set 1 _
    have B1 : Arr w3 (w.heap.size + 1) 55 [.bool false, .slice none 0 0, .slice none 0 0] := by rw [hw3]; exact ((A1.ext y2).other _ _ (by simp)).other _ _ (by simp)
    have E3 : Ext w w3 := x0.touch y2 T3
    have S3 : W.heap.size ≤ w3.heap.size := by rw [T3.size]; exact y2.size
    clear hw3 A0 A1 k0_0 k0_1 k1_0 k1_1 k1_2 f0_0 f0_1 f1_0 f1_1 f1_2 z0 z1
    have r1 := (hr1.ext hx2).touch T3 hf1.out
    have r2 := hr2.touch T3 F2.out
    obtain ⟨G, hG⟩ : ∃ G, G = Nat.gcd n m := ⟨_, rfl⟩
    have hG0 : 0 < G := by rw [hG]; exact Nat.gcd_pos_of_pos_right _ hm
    have q1 : (mkRat (sgn s n) m).num.natAbs = n / G := by rw [mkRat_num_natAbs _ _ hm, sgn_natAbs, hG, Nat.gcd_comm]
    have q2 : (mkRat (sgn s n) m).den = m / G := by rw [mkRat_den' _ _ hm, sgn_natAbs, hG, Nat.gcd_comm]
    have q3 := mkRat_num_neg (sgn s n) m hm
    generalize hQ : mkRat (sgn s n) m = Q at *
    have Q1 := Lib.hid q1; have Q2 := Lib.hid q2; have Q3 := Lib.hid q3; have HQ := Lib.hid hQ
    clear q1 q2 q3 hQ
    refine (nat_GCD _ _ _ _ _ _ _ _ _ r1 r2 b1 b2).mono ?_
    rw [← hG]
    have HG := Lib.hid hG; clear hG
    rintro e w4 ⟨a4, c4, rfl, hr4, hf4, hx4⟩
    have F4 : Fr W.heap.size a4 := hf4.mono S3
    have lG := len_pos.2 hG0
    obtain ⟨i0, i1, i2, i3⟩ := box2 B0 hx4
    obtain ⟨l0, l1, l2, l3, l4, l5⟩ := box3 B1 hx4
    have i4 := (B0.ext hx4).lt
    have l6 := (B1.ext hx4).lt
    by_cases hG1 : G = 1
    · subst hG1
      have e1 : Q.num.natAbs = n := by rw [Q1.out, Nat.div_one]
      have e2 : Q.den = m := by rw [Q2.out, Nat.div_one]
      have R1 := Lib.hid e1; have R2 := Lib.hid e2; clear e1 e2
      obtain ⟨l, hl, hv, hL⟩ := hr4
      rw [len1] at hl
      obtain ⟨pb, ob, rfl⟩ := hL.at (by omega)
      have hc := hL.cellAt 0 (by omega)
      have e0 : limb l 0 = 1 := by
        match l, hl with
        | [x], _ => simpa [limb, val] using hv
      rw [e0, Nat.add_zero] at hc
      rw [len1]
      clear hl hv e0
      go_wp2
      exact bodyPost_ret (by simp [results, Tryz.results156, go_sem, *]) rfl (NewRat.of2 R1.out R2.out Q3.out ((r1.ext hx4).touch (Touch.three (lo := w.heap.size) (hi := W.heap.size) _ (by omega) (by rw [Z0.out]; omega) _ _ _) hf1.out) (hf1.mono x0.size) ((r2.ext hx4).touch (Touch.three (lo := w.heap.size) (hi := W.heap.size) _ (by omega) (by rw [Z0.out]; omega) _ _ _) F2.out) (F2.mono x0.size) (Ext.set3 (E3.trans hx4) (by simp) _ _ _))
    · have go : ∀ (hguard : True), True := fun _ => trivial
      by_cases hl1 : len G = 1
      · have hl1' : (((len G : Nat) : Int) != 1) = false := by rw [hl1]; rfl
        obtain ⟨l, hl, hv, hL⟩ := id hr4
        obtain ⟨pb, ob, rfl⟩ := hL.at (by omega)
        have hc := hL.cellAt 0 (by omega)
        have e0 : limb l 0 = G := by
          rw [hl1] at hl
          match l, hl with
          | [x], _ => simpa [limb, val] using hv
        rw [e0, Nat.add_zero] at hc
        have hg1 : (((G : Nat) : Int) != 1) = true := by rw [bne_iff_ne]; omega
        have h0l : (0 : Int) < (len G : Int) := by omega
        have HL1 := Lib.hid hl1; clear hl hv e0 hl1
        go_wp2_with fail
        refine (nat_DivMod _ _ _ _ _ _ _ _ _ (r1.ext hx4) hr4 hG0 (by omega)).mono ?_
        rintro e w5 ⟨a5, c5, a6, c6, rfl, hr5, hf5, hr6, hf6, hx5⟩
        have F5 : Fr W.heap.size a5 := hf5.mono (Nat.le_trans S3 hx4.size)
        have C0 := (B0.ext hx4).ext hx5
        have C1 := (B1.ext hx4).ext hx5
        obtain ⟨i0, i1, i2, i3⟩ := box2 C0 (Ext.refl _)
        have i4 := C0.lt
        go_wp2_with fail
        obtain ⟨w6, hw6⟩ : ∃ w6, w6 = w5.setCell ⟨w.heap.size, 1, none⟩ (.slice a5 (len (n / G)) c5) := ⟨_, rfl⟩
        rw [← hw6]
        have T6 : Touch w.heap.size W.heap.size w5 w6 := by rw [hw6]; exact Touch.one _ (Nat.le_refl _) (by rw [Z0.out]; omega) _ _
        have D0 : Arr w6 w.heap.size 53 [.bool (decide (sgn s n < 0)), .slice a5 (len (n / G)) c5] := by rw [hw6]; exact C0.set 1 _
        have D1 : Arr w6 (w.heap.size + 1) 55 [.bool false, .slice none 0 0, .slice none 0 0] := by rw [hw6]; exact C1.other _ _ (by simp)
        have E6 : Ext w w6 := by rw [hw6]; exact ((E3.trans hx4).trans hx5).setCell (Nat.le_refl _) _
        have S6 : W.heap.size ≤ w6.heap.size := by rw [T6.size]; exact Nat.le_trans S3 (hx4.trans hx5).size
        clear hw6
        refine (nat_DivMod _ _ _ _ _ _ _ _ _ (((r2.ext hx4).ext hx5).touch T6 F2.out) ((hr4.ext hx5).touch T6 F4.out) hG0 (by omega)).mono ?_
        rintro e w7 ⟨a7, c7, a8, c8, rfl, hr7, hf7, hr8, hf8, hx7⟩
        have F7 : Fr W.heap.size a7 := hf7.mono S6
        obtain ⟨i0, i1, i2, i3⟩ := box2 D0 hx7
        obtain ⟨l0, l1, l2, l3, l4, l5⟩ := box3 D1 hx7
        have i4 := (D0.ext hx7).lt
        have l6 := (D1.ext hx7).lt
        go_wp2
        exact bodyPost_ret (by simp [results, Tryz.results156, go_sem, *]) rfl (NewRat.of2 Q1.out Q2.out Q3.out (((hr5.touch T6 F5.out).ext hx7).touch (Touch.three (lo := w.heap.size) (hi := W.heap.size) _ (by omega) (by rw [Z0.out]; omega) _ _ _) F5.out) (F5.mono x0.size) (hr7.touch (Touch.three (lo := w.heap.size) (hi := W.heap.size) _ (by omega) (by rw [Z0.out]; omega) _ _ _) F7.out) (F7.mono x0.size) (Ext.set3 (E6.trans hx7) (by simp) _ _ _))
      · have hl1' : (((len G : Nat) : Int) != 1) = true := by rw [bne_iff_ne]; omega
        go_wp2_with fail
        refine (nat_DivMod _ _ _ _ _ _ _ _ _ (r1.ext hx4) hr4 hG0 (by omega)).mono ?_
        rintro e w5 ⟨a5, c5, a6, c6, rfl, hr5, hf5, hr6, hf6, hx5⟩
        have F5 : Fr W.heap.size a5 := hf5.mono (Nat.le_trans S3 hx4.size)
        have C0 := (B0.ext hx4).ext hx5
        have C1 := (B1.ext hx4).ext hx5
        obtain ⟨i0, i1, i2, i3⟩ := box2 C0 (Ext.refl _)
        have i4 := C0.lt
        go_wp2_with fail
        obtain ⟨w6, hw6⟩ : ∃ w6, w6 = w5.setCell ⟨w.heap.size, 1, none⟩ (.slice a5 (len (n / G)) c5) := ⟨_, rfl⟩
        rw [← hw6]
        have T6 : Touch w.heap.size W.heap.size w5 w6 := by rw [hw6]; exact Touch.one _ (Nat.le_refl _) (by rw [Z0.out]; omega) _ _
        have D0 : Arr w6 w.heap.size 53 [.bool (decide (sgn s n < 0)), .slice a5 (len (n / G)) c5] := by rw [hw6]; exact C0.set 1 _
        have D1 : Arr w6 (w.heap.size + 1) 55 [.bool false, .slice none 0 0, .slice none 0 0] := by rw [hw6]; exact C1.other _ _ (by simp)
        have E6 : Ext w w6 := by rw [hw6]; exact ((E3.trans hx4).trans hx5).setCell (Nat.le_refl _) _
        have S6 : W.heap.size ≤ w6.heap.size := by rw [T6.size]; exact Nat.le_trans S3 (hx4.trans hx5).size
        clear hw6
        refine (nat_DivMod _ _ _ _ _ _ _ _ _ (((r2.ext hx4).ext hx5).touch T6 F2.out) ((hr4.ext hx5).touch T6 F4.out) hG0 (by omega)).mono ?_
        rintro e w7 ⟨a7, c7, a8, c8, rfl, hr7, hf7, hr8, hf8, hx7⟩
        have F7 : Fr W.heap.size a7 := hf7.mono S6
        obtain ⟨i0, i1, i2, i3⟩ := box2 D0 hx7
        obtain ⟨l0, l1, l2, l3, l4, l5⟩ := box3 D1 hx7
        have i4 := (D0.ext hx7).lt
        have l6 := (D1.ext hx7).lt
        go_wp2
        exact bodyPost_ret (by simp [results, Tryz.results156, go_sem, *]) rfl (NewRat.of2 Q1.out Q2.out Q3.out (((hr5.touch T6 F5.out).ext hx7).touch (Touch.three (lo := w.heap.size) (hi := W.heap.size) _ (by omega) (by rw [Z0.out]; omega) _ _ _) F5.out) (F5.mono x0.size) (hr7.touch (Touch.three (lo := w.heap.size) (hi := W.heap.size) _ (by omega) (by rw [Z0.out]; omega) _ _ _) F7.out) (F7.mono x0.size) (Ext.set3 (E6.trans hx7) (by simp) _ _ _))
end Go.Proofs.YtgihpfkjpfanmaaGreat

/- Contracts of rational.Norm, FromInt, Sign, Neg, Mul, Div. -/
namespace Go.Proofs.YtgihpfkjpfanmaaGreat
open Go.RowKit

theorem NewRat.base {q : Rat} {W w1 w2 : World} {e : Ending} (h : NewRat q w1 e w2) (hx : Ext W w1) : NewRat q W e w2 := by
  obtain ⟨a, c, a', c', he, hr, hf, hr', hf', hx'⟩ := h
  exact ⟨a, c, a', c', he, hr, hf.mono hx.size, hr', hf'.mono hx.size, hx.trans hx'⟩

set_option maxHeartbeats 1000000 in
/-- rational.Norm. -/
theorem rat_Norm (w : World) (s : Bool) (a b : Option Addr) (k c j d n m : Nat) (h : Raw w a k c n) (g : Raw w b j d m) (b1 : len n < 100000000) (b2 : len m < 100000000) :
    Calls Tryz.prog 146 #[.agg #[.bool s, .slice a k c, .slice b j d]] w (NewRat (mkRat (sgn s n) m) w) := by
  by_cases hsm : n < 2147483648 ∧ m < 2147483648
  · obtain ⟨hn, hm⟩ := hsm
    have HN := Lib.hid hn; have HM := Lib.hid hm; clear hn hm
    go_enter Tryz.func146, Tryz.ntmps146
    go_wp2_with fail
    obtain ⟨W, hW, x0, Z0, A0, A1⟩ := boxes2 w 55 [.bool s, .slice a k c, .slice b j d] 55 [.bool false, .slice none 0 0, .slice none 0 0]
    rw [← hW]
    clear hW
    obtain ⟨k0_0, k0_1, k0_2, f0_0, f0_1, f0_2⟩ := box3 A0 (Ext.refl _)
    have z0 := (A0.ext (Ext.refl _)).lt
    obtain ⟨k1_0, k1_1, k1_2, f1_0, f1_1, f1_2⟩ := box3 A1 (Ext.refl _)
    have z1 := (A1.ext (Ext.refl _)).lt
    refine (rat_small _ _ _ _ _ _ _ _ _ _ (h.ext x0) (g.ext x0) HN.out HM.out).mono ?_
    rintro e w1 ⟨x, y, rfl, hx1, hx2, hy1, hy2, hxy, hx⟩
    have HXY := Lib.hid hxy; clear hxy
    obtain ⟨k0_0, k0_1, k0_2, f0_0, f0_1, f0_2⟩ := box3 A0 hx
    have z0 := (A0.ext hx).lt
    obtain ⟨k1_0, k1_1, k1_2, f1_0, f1_1, f1_2⟩ := box3 A1 hx
    have z1 := (A1.ext hx).lt
    go_wp2_with fail
    refine (rat_quotient _ _ _ (by omega) (by omega) hy1 (by omega)).mono ?_
    intro e wz hN
    rw [HXY.out] at hN
    obtain ⟨az, cz, az', cz', rfl, hrz, hfz, hrz', hfz', hxz⟩ := id hN
    obtain ⟨k0_0, k0_1, k0_2, f0_0, f0_1, f0_2⟩ := box3 A0 (hx.trans hxz)
    have z0 := (A0.ext (hx.trans hxz)).lt
    obtain ⟨k1_0, k1_1, k1_2, f1_0, f1_1, f1_2⟩ := box3 A1 (hx.trans hxz)
    have z1 := (A1.ext (hx.trans hxz)).lt
    go_wp2
    exact bodyPost_ret (by simp [results, Tryz.results146, go_sem, *]) rfl (NewRat.touch (hN.base hx) x0 (Touch.three _ (by omega) (by rw [Z0.out]; omega) _ _ _))
  · have HS := Lib.hid hsm; clear hsm
    go_enter Tryz.func146, Tryz.ntmps146
    go_wp2_with fail
    obtain ⟨W, hW, x0, Z0, A0, A1⟩ := boxes2 w 55 [.bool s, .slice a k c, .slice b j d] 55 [.bool false, .slice none 0 0, .slice none 0 0]
    rw [← hW]
    clear hW
    obtain ⟨k0_0, k0_1, k0_2, f0_0, f0_1, f0_2⟩ := box3 A0 (Ext.refl _)
    have z0 := (A0.ext (Ext.refl _)).lt
    obtain ⟨k1_0, k1_1, k1_2, f1_0, f1_1, f1_2⟩ := box3 A1 (Ext.refl _)
    have z1 := (A1.ext (Ext.refl _)).lt
    refine (rat_small_no _ _ _ _ _ _ _ _ _ _ (h.ext x0) (g.ext x0) HS.out).mono ?_
    rintro e w1 ⟨rfl, hx⟩
    obtain ⟨k0_0, k0_1, k0_2, f0_0, f0_1, f0_2⟩ := box3 A0 hx
    have z0 := (A0.ext hx).lt
    obtain ⟨k1_0, k1_1, k1_2, f1_0, f1_1, f1_2⟩ := box3 A1 hx
    have z1 := (A1.ext hx).lt
    go_wp2_with fail
    refine (rat_parts _ _ _ _ _ _ _ _ _ _ ((h.ext x0).ext hx) ((g.ext x0).ext hx)).mono ?_
    rintro e w2 ⟨s1, a1, k1, c1, n1, e1, j1, d1, m1, rfl, h1, g1, hm1, hv, l1, l2, hx2⟩
    have HV := Lib.hid hv; clear hv
    obtain ⟨k0_0, k0_1, k0_2, f0_0, f0_1, f0_2⟩ := box3 A0 (hx.trans hx2)
    have z0 := (A0.ext (hx.trans hx2)).lt
    obtain ⟨k1_0, k1_1, k1_2, f1_0, f1_1, f1_2⟩ := box3 A1 (hx.trans hx2)
    have z1 := (A1.ext (hx.trans hx2)).lt
    go_wp2_with fail
    refine (rat_lowest _ _ _ _ _ _ _ _ _ _ h1 g1 hm1 (by omega) (by omega)).mono ?_
    intro e wz hN
    rw [HV.out] at hN
    obtain ⟨az, cz, az', cz', rfl, hrz, hfz, hrz', hfz', hxz⟩ := id hN
    obtain ⟨k0_0, k0_1, k0_2, f0_0, f0_1, f0_2⟩ := box3 A0 ((hx.trans hx2).trans hxz)
    have z0 := (A0.ext ((hx.trans hx2).trans hxz)).lt
    obtain ⟨k1_0, k1_1, k1_2, f1_0, f1_1, f1_2⟩ := box3 A1 ((hx.trans hx2).trans hxz)
    have z1 := (A1.ext ((hx.trans hx2).trans hxz)).lt
    go_wp2
    exact bodyPost_ret (by simp [results, Tryz.results146, go_sem, *]) rfl (NewRat.touch (hN.base (hx.trans hx2)) x0 (Touch.three _ (by omega) (by rw [Z0.out]; omega) _ _ _))

set_option maxHeartbeats 1000000 in
/-- rational.FromInt. -/
theorem rat_FromInt (w : World) (v : Int) (h1 : -9223372036854775808 ≤ v) (h2 : v ≤ 9223372036854775807) :
    Calls Tryz.prog 80 #[.int .i64 v] w (NewRat (v : Rat) w) := by
  go_enter Tryz.func80, Tryz.ntmps80
  go_wp2_with fail
  obtain ⟨W, hW, x0, Z0, A0⟩ := boxes1 w 55 [.bool false, .slice none 0 0, .slice none 0 0]
  rw [← hW]
  clear hW
  obtain ⟨k0_0, k0_1, k0_2, f0_0, f0_1, f0_2⟩ := box3 A0 (Ext.refl _)
  have z0 := (A0.ext (Ext.refl _)).lt
  refine (int_FromInt _ _ h1 h2).mono ?_
  rintro e w1 ⟨a1, c1, rfl, hr1, hf1, hx1⟩
  obtain ⟨k0_0, k0_1, k0_2, f0_0, f0_1, f0_2⟩ := box3 A0 hx1
  have z0 := (A0.ext hx1).lt
  go_wp2
  refine bodyPost_ret (v := .agg #[.bool (decide (v < 0)), .slice a1 (len v.natAbs) c1, .slice (some ⟨w1.heap.size, 0, none⟩) 1 1]) (by simp [results, Tryz.results80, go_sem, *]) rfl ?_
  have R := raw_one (((w1.setCell ⟨w.heap.size, 0, none⟩ (.bool (decide (v < 0)))).setCell ⟨w.heap.size, 1, none⟩ (.slice a1 (len v.natAbs) c1)).setCell ⟨w.heap.size, 2, none⟩ (.slice (some ⟨w1.heap.size, 0, none⟩) 1 1))
  have E := Ext.set3 (x0.trans hx1) (Nat.le_refl w.heap.size) (.bool (decide (v < 0))) (.slice a1 (len v.natAbs) c1) (.slice (some ⟨w1.heap.size, 0, none⟩) 1 1)
  refine ⟨a1, c1, some ⟨w1.heap.size, 0, none⟩, 1, ?_, ?_, hf1.mono x0.size, ?_, Fr.some (x0.trans hx1).size, E.alloc _⟩
  · rw [Rat.num_intCast, Rat.den_intCast, len1]
  · rw [Rat.num_intCast]
    exact (hr1.touch (Touch.three (lo := w.heap.size) (hi := W.heap.size) _ (Nat.le_refl _) (by rw [Z0.out]; omega) _ _ _) hf1.out).ext ((Ext.refl _).alloc _)
  · rw [Rat.den_intCast, len1]; simpa using R

theorem mkRat_num_sign (x : Int) (y : Nat) (h : 0 < y) : (mkRat x y).num.sign = x.sign := by
  have hg : (0 : Int) < (Nat.gcd y x.natAbs : Nat) := by have := Nat.gcd_pos_of_pos_left x.natAbs h; omega
  have hd : ((Nat.gcd y x.natAbs : Nat) : Int) ∣ x := Int.ofNat_dvd_left.2 (Nat.gcd_dvd_right _ _)
  rw [Rat.num_mkRat, if_neg (by omega)]
  obtain ⟨z, hz⟩ := hd
  generalize ((Nat.gcd y x.natAbs : Nat) : Int) = G at *
  subst hz
  rw [Int.mul_ediv_cancel_left _ (by omega), Int.sign_mul, Int.sign_eq_one_of_pos hg, Int.one_mul]

set_option maxHeartbeats 1000000 in
/-- rational.Sign. -/
theorem rat_Sign (w : World) (s : Bool) (a b : Option Addr) (k c j d n m : Nat) (h : Raw w a k c n) (g : Raw w b j d m) :
    Calls Tryz.prog 94 #[.agg #[.bool s, .slice a k c, .slice b j d]] w fun e w' => e = .returned (.int .i64 (mkRat (sgn s n) m).num.sign) ∧ Ext w w' := by
  go_enter Tryz.func94, Tryz.ntmps94
  go_wp2_with fail
  obtain ⟨W, hW, x0, Z0, A0⟩ := boxes1 w 55 [.bool s, .slice a k c, .slice b j d]
  rw [← hW]
  clear hW
  obtain ⟨k0_0, k0_1, k0_2, f0_0, f0_1, f0_2⟩ := box3 A0 (Ext.refl _)
  have z0 := (A0.ext (Ext.refl _)).lt
  refine (rat_parts _ _ _ _ _ _ _ _ _ _ (h.ext x0) (g.ext x0)).mono ?_
  rintro e w1 ⟨s1, a1, k1, c1, n1, e1, j1, d1, m1, rfl, h1, g1, hm1, hv, l1, l2, hx1⟩
  have HV := Lib.hid hv; clear hv
  go_wp2_with fail
  refine (int_Sign _ _ _ _ _ _ (h1.ext ((Ext.refl _).alloc _))).mono ?_
  rintro e w2 ⟨rfl, hx2⟩
  go_wp2
  go_ret
  exact ⟨ret_int (by rw [← HV.out, mkRat_num_sign _ _ hm1]), ((x0.trans hx1).alloc _).trans hx2⟩

end Go.Proofs.YtgihpfkjpfanmaaGreat
