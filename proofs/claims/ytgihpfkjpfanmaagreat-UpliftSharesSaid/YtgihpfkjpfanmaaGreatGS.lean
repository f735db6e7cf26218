/- Texts of the proof: Ra1, Ra2, Ra3. -/
import Derived.Test.YtgihpfkjpfanmaaGreatGQ
import Derived.Test.YtgihpfkjpfanmaaGreatGR
/- The reference's package 28: Abs. The empty slices of ref18.Ints. -/
namespace Go.Proofs.YtgihpfkjpfanmaaGreat
open Go.RowKit

/-- The absolute value. -/
def absQ (q : Rat) : Rat := if q < 0 then -q else q

theorem num_sign_neg {q : Rat} : q.num.sign < 0 ↔ q < 0 := by
  have h0 := Rat.num_nonneg (q := q)
  constructor
  · intro h
    apply Rat.not_le.1
    intro h1
    have h2 := h0.2 h1
    rcases Int.lt_or_eq_of_le h2 with h5 | h5
    · rw [Int.sign_eq_one_of_pos h5] at h; omega
    · rw [← h5] at h; exact absurd h (by decide)
  · intro h
    have h1 : q.num < 0 := Int.not_le.1 (fun h2 => absurd h (Rat.not_lt.2 (h0.1 h2)))
    rw [Int.sign_eq_neg_one_of_neg h1]; decide

/-- A call returns the three cells of a number with the value q: new, or those that came in. -/
def HasRat (q : Rat) (L K : Nat) (w : World) (e : Ending) (w' : World) : Prop := ∃ r : RVal, e = .returned (.agg #[.bool r.s, .slice r.a r.k r.c, .slice r.b r.j r.d]) ∧ IsRat w' r q L ∧ r.k ≤ K ∧ r.j ≤ K ∧ Ext w w'

theorem set3_ext {w w' : World} {b : Nat} (h : Ext w w') (hb : w.heap.size ≤ b) (u v t : Value) : Ext w (((w'.setCell ⟨b, 0, none⟩ u).setCell ⟨b, 1, none⟩ v).setCell ⟨b, 2, none⟩ t) :=
  ((h.setCell (p := ⟨b, 0, none⟩) hb _).setCell (p := ⟨b, 1, none⟩) hb _).setCell (p := ⟨b, 2, none⟩) hb _

set_option maxHeartbeats 1000000 in
set_option maxRecDepth 100000 in
/-- ref28.Abs. -/
theorem r28_Abs (w : World) (y : RVal) (q : Rat) (L : Nat) (h : IsRat w y q L) (hk : y.k ≤ 1000000) (hj : y.j ≤ 1000000) (_hL : L ≤ 1000000) :
    Calls Tryz.prog 87 #[.agg #[.bool y.s, .slice y.a y.k y.c, .slice y.b y.j y.d]] w (HasRat (absQ q) (L + 1) (max (max y.k y.j) (L + 1)) w) := by
  obtain ⟨n, m, g1, g2, gq, gl1, gl2⟩ := id h
  have hS := fun V (hV : Ext w V) => r3_Sign V y.s _ _ _ _ _ _ _ _ (g1.ext hV) (g2.ext hV) (by omega) (by omega)
  have hN := fun V (hV : Ext w V) => r3_Neg V y.s _ _ _ _ _ _ _ _ (g1.ext hV) (g2.ext hV) (by omega) (by omega)
  rw [← gq] at hS hN
  have hrz := h.rsz
  clear gq
  unfold absQ
  by_cases h0 : q < 0
  · rw [if_pos h0]
    have t0 : decide (q.num.sign < 0) = true := decide_eq_true (num_sign_neg.2 h0)
    have hrz' : rsz (-q) ≤ L + 1 := by rw [rsz_neg]; omega
    generalize q.num.sign = sg at *
    generalize -q = p at *
    have HS := Lib.hid hS; have HN := Lib.hid hN
    clear hS hN
    go_enter Tryz.func87, Tryz.ntmps87
    go_wp2_with fail
    obtain ⟨W, hW, x0, Z0, A0, A1⟩ := boxes2 w 55 [.bool y.s, .slice y.a y.k y.c, .slice y.b y.j y.d] 55 [.bool false, .slice none 0 0, .slice none 0 0]
    rw [← hW]
    clear hW
    obtain ⟨k0, k1, k2, -, -, -⟩ := box3 A0 (Ext.refl _)
    refine (HS.out _ x0).mono ?_
    rintro e w1 ⟨rfl, x1⟩
    clear k0 k1 k2
    obtain ⟨k0, k1, k2, -, -, -⟩ := box3 A0 x1
    go_wp2_with fail
    refine (HN.out _ (x0.trans x1)).mono ?_
    intro e w2 hNR
    obtain ⟨r, rfl, hr, x2⟩ := hNR.isCan
    clear hNR k0 k1 k2
    obtain ⟨k0, k1, k2, k3, k4, k5⟩ := box3 A1 (x1.trans x2)
    have hks := hr.short hrz'
    have z0 := Z0.out
    have z1 := x1.size
    go_wp2_with fail
    have hR3 := ((hr.setCell ⟨w.heap.size + 1, 0, none⟩ (.bool r.s) (by simp only; omega)).setCell ⟨w.heap.size + 1, 1, none⟩ (.slice r.a r.k r.c) (by simp only; omega)).setCell ⟨w.heap.size + 1, 2, none⟩ (.slice r.b r.j r.d) (by simp only; omega)
    exact bodyPost_ret (by simp [results, Tryz.results87, go_sem, k0, k1, k2]) rfl ⟨r, rfl, hR3.isRat.mono hrz', by omega, by omega, set3_ext ((x0.trans x1).trans x2) (by omega) _ _ _⟩
  · rw [if_neg h0]
    have t0 : decide (q.num.sign < 0) = false := decide_eq_false (fun hh => h0 (num_sign_neg.1 hh))
    generalize q.num.sign = sg at *
    have HS := Lib.hid hS
    clear hS hN
    have HI := Lib.hid h
    go_enter Tryz.func87, Tryz.ntmps87
    go_wp2_with fail
    obtain ⟨W, hW, x0, Z0, A0, A1⟩ := boxes2 w 55 [.bool y.s, .slice y.a y.k y.c, .slice y.b y.j y.d] 55 [.bool false, .slice none 0 0, .slice none 0 0]
    rw [← hW]
    clear hW
    obtain ⟨k0, k1, k2, -, -, -⟩ := box3 A0 (Ext.refl _)
    refine (HS.out _ x0).mono ?_
    rintro e w1 ⟨rfl, x1⟩
    clear k0 k1 k2
    obtain ⟨k0, k1, k2, -, -, -⟩ := box3 A0 x1
    obtain ⟨l0, l1, l2, l3, l4, l5⟩ := box3 A1 x1
    have z0 := Z0.out
    have z1 := x1.size
    go_wp2_with fail
    have hR3 : IsRat (((w1.setCell ⟨w.heap.size + 1, 0, none⟩ (.bool y.s)).setCell ⟨w.heap.size + 1, 1, none⟩ (.slice y.a y.k y.c)).setCell ⟨w.heap.size + 1, 2, none⟩ (.slice y.b y.j y.d)) y q L := IsRat.ext HI.out (set3_ext (x0.trans x1) (by omega) _ _ _)
    exact bodyPost_ret (by simp [results, Tryz.results87, go_sem, l0, l1, l2]) rfl ⟨y, rfl, hR3.mono (by omega), by omega, by omega, set3_ext (x0.trans x1) (by omega) _ _ _⟩

/-- Two empty slices. -/
theorem r17_Ints_none (w : World) (a b : Option Addr) (c c' : Nat) :
    Calls Tryz.prog 88 #[.slice a 0 c, .slice b 0 c'] w fun e w' => e = .returned (.bool true) ∧ Ext w w' := by
  go_enter Tryz.func88, Tryz.ntmps88
  go_wp2_with fail
  go_loopw [5] (fun i wr => i = .int .i64 0 ∧ Ext w wr) (fun _ _ => 0)
  case atStart => exact ⟨rfl, Ext.refl _⟩
  case round =>
    obtain ⟨rfl, hq⟩ := hrel
    go_wp2
    go_ret
    exact ⟨rfl, hq⟩
theorem r18_Ints_none (w : World) (a b : Option Addr) (c c' : Nat) :
    Calls Tryz.prog 36 #[.slice a 0 c, .slice b 0 c'] w fun e w' => e = .returned (.bool true) ∧ Ext w w' := by
  go_enter Tryz.func36, Tryz.ntmps36
  go_wp2_with fail
  refine (r17_Ints_none _ _ _ _ _).mono ?_
  rintro e w1 ⟨rfl, hX⟩
  go_wp2_with fail
  go_ret
  exact ⟨rfl, hX⟩

end Go.Proofs.YtgihpfkjpfanmaaGreat

/- ref40.Apportion: how the greatest part is found, plainly. -/
namespace Go.Proofs.YtgihpfkjpfanmaaGreat
open Go.RowKit

/-- The best place among the first k that have not been raised. -/
def BestTo (fs : List Rat) (n t k : Nat) (b : Int) : Prop := (b = -1 ∧ ∀ i, i < k → Up fs n t i) ∨ ∃ m : Nat, b = (m : Int) ∧ m < k ∧ ¬ Up fs n t m ∧ ∀ i, i < k → ¬ Up fs n t i → i = m ∨ apLt fs m i

theorem best_start (fs : List Rat) (n t : Nat) : BestTo fs n t 0 (-1) := Or.inl ⟨rfl, fun _ hi => absurd hi (Nat.not_lt_zero _)⟩
theorem best_skip {fs : List Rat} {n t k : Nat} {b : Int} (hu : Up fs n t k) (h : BestTo fs n t k b) : BestTo fs n t (k + 1) b := by
  rcases h with ⟨rfl, h⟩ | ⟨m, rfl, hm, hv, h⟩
  · refine Or.inl ⟨rfl, fun i hi => ?_⟩
    by_cases hk : i < k
    · exact h i hk
    · obtain rfl : i = k := by omega
      exact hu
  · refine Or.inr ⟨m, rfl, by omega, hv, fun i hi hw => ?_⟩
    by_cases hk : i < k
    · exact h i hk hw
    · obtain rfl : i = k := by omega
      exact absurd hu hw
theorem best_first {fs : List Rat} {n t k : Nat} (hu : ¬ Up fs n t k) (h : BestTo fs n t k (-1)) : BestTo fs n t (k + 1) (k : Int) := by
  rcases h with ⟨-, h⟩ | ⟨m, e, _⟩
  · refine Or.inr ⟨k, rfl, by omega, hu, fun i hi hw => ?_⟩
    by_cases hk : i < k
    · exact absurd (h i hk) hw
    · exact Or.inl (by omega)
  · omega
theorem best_more {fs : List Rat} {n t k m : Nat} (hu : ¬ Up fs n t k) (h : BestTo fs n t k (m : Int)) (hl : fs[m]?.getD 0 < fs[k]?.getD 0) : BestTo fs n t (k + 1) (k : Int) := by
  rcases h with ⟨e, _⟩ | ⟨m', e, hm, hv, h⟩
  · omega
  · obtain rfl : m = m' := by omega
    refine Or.inr ⟨k, rfl, by omega, hu, fun i hi hw => ?_⟩
    by_cases hk : i < k
    · rcases h i hk hw with rfl | h5
      · exact Or.inr (Or.inl hl)
      · exact Or.inr (apLt_trans (Or.inl hl) h5)
    · exact Or.inl (by omega)
theorem best_stay {fs : List Rat} {n t k m : Nat} (h : BestTo fs n t k (m : Int)) (hl : ¬ fs[m]?.getD 0 < fs[k]?.getD 0) : BestTo fs n t (k + 1) (m : Int) := by
  rcases h with ⟨e, _⟩ | ⟨m', e, hm, hv, h⟩
  · omega
  · obtain rfl : m = m' := by omega
    refine Or.inr ⟨m, rfl, by omega, hv, fun i hi hw => ?_⟩
    by_cases hk : i < k
    · exact h i hk hw
    · obtain rfl : i = k := by omega
      refine Or.inr ?_
      have h6 := Rat.not_lt.1 hl
      by_cases h5 : fs[i]?.getD 0 = fs[m]?.getD 0
      · exact Or.inr ⟨h5, hm⟩
      · exact Or.inl (by grind)
theorem not_up_at {fs : List Rat} {n t : Nat} (ht : t < n) : ¬ Up fs n t (apAt fs n t) := by
  rintro ⟨j, hj, he⟩
  have := apAt_inj fs n j t (by omega) ht he
  omega
theorem best_end {fs : List Rat} {n t : Nat} {b : Int} (ht : t < n) (h : BestTo fs n t n b) : b = (apAt fs n t : Int) := by
  have hv := not_up_at (fs := fs) ht
  have hl := apAt_lt fs n t ht
  rcases h with ⟨_, h⟩ | ⟨m, rfl, hm, hw, h⟩
  · exact absurd (h _ hl) hv
  · rcases h _ hl hv with e | e
    · rw [e]
    · obtain ⟨j, hj, hje⟩ := apAt_surj fs n m hm
      have h1 : ¬ j < t := fun hjt => hw ⟨j, hjt, hje⟩
      have h2 : j ≠ t := by
        rintro rfl
        rw [hje] at e
        exact apLt_irrefl _ _ e
      have h3 := apAt_mono fs n t j (by omega) hj
      rw [hje] at h3
      exact absurd (apLt_trans e h3) (apLt_irrefl _ _)
theorem up_succ {fs : List Rat} {n t i : Nat} : Up fs n (t + 1) i ↔ Up fs n t i ∨ apAt fs n t = i := by
  constructor
  · rintro ⟨j, hj, he⟩
    by_cases h : j < t
    · exact Or.inl ⟨j, h, he⟩
    · obtain rfl : j = t := by omega
      exact Or.inr he
  · rintro (⟨j, hj, he⟩ | he)
    · exact ⟨j, by omega, he⟩
    · exact ⟨t, by omega, he⟩

open Classical in
/-- The parts after t have been raised: those raised are -1. -/
noncomputable def partAt (fs : List Rat) (n t i : Nat) : Rat := if Up fs n t i then ((-1 : Int) : Rat) else fs[i]?.getD 0
theorem partAt_zero (fs : List Rat) (n i : Nat) : partAt fs n 0 i = fs[i]?.getD 0 := by
  unfold partAt; rw [if_neg]; rintro ⟨j, hj, _⟩; omega
theorem partAt_up {fs : List Rat} {n t i : Nat} (h : Up fs n t i) : partAt fs n t i = ((-1 : Int) : Rat) := by unfold partAt; rw [if_pos h]
theorem partAt_not {fs : List Rat} {n t i : Nat} (h : ¬ Up fs n t i) : partAt fs n t i = fs[i]?.getD 0 := by unfold partAt; rw [if_neg h]
theorem partAt_set (fs : List Rat) (n t i : Nat) : partAt fs n (t + 1) i = if apAt fs n t = i then ((-1 : Int) : Rat) else partAt fs n t i := by
  by_cases h : apAt fs n t = i
  · rw [if_pos h, partAt_up (up_succ.2 (Or.inr h))]
  · rw [if_neg h]
    by_cases hu : Up fs n t i
    · rw [partAt_up hu, partAt_up (up_succ.2 (Or.inl hu))]
    · rw [partAt_not hu, partAt_not (fun h5 => (up_succ.1 h5).elim hu h)]
theorem frac_nonneg (qs : List Rat) (i : Nat) : 0 ≤ (fracs qs)[i]?.getD 0 := by
  by_cases h : i < qs.length
  · rw [fracs_get qs i h]; have := Rat.floor_le qs[i]; grind
  · rw [List.getElem?_eq_none (by simp [fracs]; omega)]; exact Rat.le_refl
theorem sign_nonneg {q : Rat} (h : 0 ≤ q) : decide ((0 : Int) ≤ q.num.sign) = true := by
  apply decide_eq_true
  apply Int.not_lt.1
  intro h1
  exact absurd (num_sign_neg.1 h1) (Rat.not_lt.2 h)
theorem sign_minus : decide ((0 : Int) ≤ (((-1 : Int) : Rat)).num.sign) = false := by
  rw [Rat.num_intCast]; decide

theorem ratCells_set (l : List RVal) (b : Nat) (r : RVal) (h : b < l.length) : (((ratCells l).set (b * 3) (.bool r.s)).set (b * 3 + 1) (.slice r.a r.k r.c)).set (b * 3 + 2) (.slice r.b r.j r.d) = ratCells (l.set b r) := by
  induction l generalizing b with
  | nil => simp at h
  | cons x l ih =>
    have e : ∀ y : RVal, ∀ m, ratCells (y :: m) = .bool y.s :: .slice y.a y.k y.c :: .slice y.b y.j y.d :: ratCells m := fun y m => rfl
    cases b with
    | zero => rfl
    | succ b =>
      have h' : b < l.length := by simpa using h
      rw [e, List.set_cons_succ, e, ← ih b h', show (b + 1) * 3 = b * 3 + 3 by omega]
      rfl

end Go.Proofs.YtgihpfkjpfanmaaGreat

/- ref40.Apportion. -/
namespace Go.Proofs.YtgihpfkjpfanmaaGreat
open Go.RowKit

theorem apOk_abs {q : Rat} : apOk q ↔ absQ q ≤ apMost := by
  unfold apOk absQ
  have hM : 0 ≤ apMost := by unfold apMost; decide
  split <;> constructor
  · intro h; exact h.2
  · intro h; exact ⟨by grind, h⟩
  · intro h; exact h.1
  · intro h; exact ⟨h, by grind⟩
theorem rsz_abs (q : Rat) : rsz (absQ q) = rsz q := by unfold absQ; split; exact rsz_neg q; rfl
theorem rsz_most : rsz apMost ≤ 2 := by show rsz (((281474976710656 : Int) : Rat)) ≤ 2; rw [rsz_int]; decide

theorem r40_long (w : World) (a : Option Addr) (k c : Nat) (hk : 128 < k) (hs : k ≤ 1099511627776) :
    Calls Tryz.prog 34 #[.slice a k c] w fun e w' => e = .returned (.tuple #[.slice none 0 0, .int .i64 8]) ∧ w = w' := by
  go_enter Tryz.func34, Tryz.ntmps34
  go_wp2_with fail
  go_ret2
  exact ⟨rfl, rfl⟩

/-- What the first loop's three calls give. -/
theorem r40_abs (w : World) (y : RVal) (q : Rat) (L : Nat) (h : IsRat w y q L) (hk : y.k ≤ 1000) (hj : y.j ≤ 1000) (hL : L ≤ 1000) : (∀ V, Ext w V → Calls Tryz.prog 87 #[.agg #[.bool y.s, .slice y.a y.k y.c, .slice y.b y.j y.d]] V (HasRat (absQ q) (L + 1) 1001 V)) ∧
    (∀ V (r r' : RVal) (B : Nat), IsRat V r (absQ q) (L + 1) → r.k ≤ 1001 → r.j ≤ 1001 → IsCan V r' apMost B → Calls Tryz.prog 28 #[.agg #[.bool r.s, .slice r.a r.k r.c, .slice r.b r.j r.d], .agg #[.bool r'.s, .slice r'.a r'.k r'.c, .slice r'.b r'.j r'.d]] V fun e w' => e = .returned (.int .i64 (cmpQ (absQ q) apMost)) ∧ Ext V w') := by
  constructor
  · intro V hV
    refine (r28_Abs V y q L (h.ext hV) (by omega) (by omega) (by omega)).mono ?_
    rintro e w' ⟨r, he, h1, h2, h3, h4⟩
    exact ⟨r, he, h1, by omega, by omega, h4⟩
  · intro V r r' B h1 k1 k2 h2
    obtain ⟨n, m, g1, g2, gq, gl1, gl2⟩ := h1
    have hs := h2.short rsz_most
    have h5 := r3_Compare V r.s _ _ _ _ _ _ _ _ g1 g2 r'.s _ _ _ _ _ _ _ _ h2.num h2.den (by omega) (by omega) (by omega) (by omega)
    rw [← gq, h2.s, sgn_num, Rat.mkRat_self] at h5
    rw [h2.s]
    exact h5

set_option maxHeartbeats 4000000 in
set_option maxRecDepth 100000 in
/-- A number is too great. -/
theorem r40_big (w : World) (a : Option Addr) (c L : Nat) (rs : List RVal) (qs : List Rat) (h : Rats w a c rs qs L) (hn : rs.length ≤ 128) (hL : L ≤ 1000) (hK : RShort rs 1000) (jb : Nat) (hjb : jb < rs.length) (hall : ∀ i (hi : i < jb), apOk (qs[i]'(by rw [h.len]; omega))) (hbad : ¬ apOk (qs[jb]'(by rw [h.len]; exact hjb))) :
    Calls Tryz.prog 34 #[.slice a rs.length c] w fun e w' => e = .returned (.tuple #[.slice none 0 0, .int .i64 8]) ∧ Ext w w' := by
  have hle := h.le
  have hcap := h.cap
  have hFM : ∀ V, Calls Tryz.prog 32 #[.int .i64 281474976710656] V (NewRat apMost V) := fun V => r3_FromInt V 281474976710656 (by decide) (by decide)
  have HFM := Lib.hid hFM
  clear hFM
  go_enter Tryz.func34, Tryz.ntmps34
  go_wp2_with fail
  go_loopw [4] (fun ii wr => ∃ j : Nat, j ≤ jb ∧ Ext w wr ∧ ii = .int .i64 j) (fun ii _ => rs.length - (intOf ii).toNat)
  case atStart => exact ⟨0, Nat.zero_le _, Ext.refl _, rfl⟩
  case round =>
    obtain ⟨j, hj, hE, rfl⟩ := hrel
    have hlt : j < rs.length := by omega
    obtain ⟨b, o, rfl⟩ := h.at (by omega)
    obtain ⟨b', o', e', c0, c1, c2⟩ := (h.ext hE).cell j hlt
    cases e'
    obtain ⟨ks1, ks2⟩ := hK j hlt
    obtain ⟨hA, hC⟩ := r40_abs w rs[j] _ L (h.num j hlt) ks1 ks2 hL
    have hz : (j < jb ∧ decide ((0 : Int) < cmpQ (absQ (qs[j]'(by rw [h.len]; exact hlt))) apMost) = false) ∨ decide ((0 : Int) < cmpQ (absQ (qs[j]'(by rw [h.len]; exact hlt))) apMost) = true := by
      by_cases hjj : j < jb
      · exact Or.inl ⟨hjj, cmpQ_pos_false (apOk_abs.1 (hall j hjj))⟩
      · obtain rfl : j = jb := by omega
        exact Or.inr (cmpQ_pos_true (fun h2 => hbad (apOk_abs.2 h2)))
    generalize cmpQ (absQ (qs[j]'(by rw [h.len]; exact hlt))) apMost = t1 at *
    generalize rs[j] = y at *
    have HA := Lib.hid hA; have HC := Lib.hid hC; have HZ := Lib.hid hz
    clear hA hC hz
    go_wp2_with fail
    refine (HA.out _ hE).mono ?_
    rintro e w1 ⟨r1, rfl, hr1, k1, k2, x1⟩
    go_wp2_with fail
    refine (HFM.out _).mono ?_
    intro e w2 hN
    obtain ⟨r2, rfl, hr2, x2⟩ := hN.isCan
    clear hN
    go_wp2_with fail
    refine (HC.out _ _ _ _ (hr1.ext x2) k1 k2 hr2).mono ?_
    rintro e w3 ⟨rfl, x3⟩
    rcases HZ.out with ⟨hjj, z1⟩ | z1
    · go_wp2_with fail
      go_roundw
      case rel => exact ⟨j + 1, by omega, ((hE.trans x1).trans x2).trans x3, by go_num⟩
      case measure => simp [intOf] <;> omega
    · go_wp2_with fail
      go_ret2
      exact ⟨rfl, ((hE.trans x1).trans x2).trans x3⟩

end Go.Proofs.YtgihpfkjpfanmaaGreat
