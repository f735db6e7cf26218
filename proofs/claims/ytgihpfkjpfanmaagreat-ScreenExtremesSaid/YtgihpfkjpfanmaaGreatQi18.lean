/- Texts of the proof: Sd1, Hy. -/
import Derived.Test.YtgihpfkjpfanmaaGreatProg
import Derived.Shelf.SlSortCmp.NoneTotal
import Derived.Maps.RangeWalk
import Derived.Maps.OwnSet
import Derived.Maps.OwnOps
import Derived.Maps.Views
import Derived.Lib.MinMax
import Derived.Deep.DeepCutAuto
import Derived.Deep.CutBlock
import Derived.IntWalk
import Derived.Test.YtgihpfkjpfanmaaGreatRows
import Derived.Shelf.SlMaps.Clone
import Derived.Shelf.SlicesE.Reverse
import Derived.Test.YtgihpfkjpfanmaaGreatChecked
import Derived.Lib.Strings
import Derived.Lib.Slices
import Derived.Lib.Small
import Derived.Lib.Walk
import Derived.Lib.BitFns
import Derived.Laws.AppendOwnNone
import Derived.Deep.LoopGhost
import Derived.KernelRfl
import Derived.WalkKit
import Derived.WalkSpells
import Derived.Sort.Grow
import Derived.Lib.Hide
import Derived.Laws.CopyOwn
import Derived.Laws.BitsAllLaws
import Derived.Deep.QuietTactic
import Derived.BigQuiet
import Derived.WalkLawsBesides
import Derived.Deep.RegionWith
import Derived.Deep.RegionHeld3
import Derived.Deep.Slices
import Derived.ProofKit
import Derived.OpenShut
import Derived.ShutString
import Derived.ChangeOld
import Derived.Below
import Derived.Deep.RegionHeld
import Derived.Test.YtgihpfkjpfanmaaGreatQi1
import Derived.Test.YtgihpfkjpfanmaaGreatQi2
import Derived.Test.YtgihpfkjpfanmaaGreatQi3
import Derived.Test.YtgihpfkjpfanmaaGreatQi4
import Derived.Test.YtgihpfkjpfanmaaGreatQi5
import Derived.Test.YtgihpfkjpfanmaaGreatQi6
import Derived.Test.YtgihpfkjpfanmaaGreatQi7
import Derived.Test.YtgihpfkjpfanmaaGreatQi8
import Derived.Test.YtgihpfkjpfanmaaGreatQi9
import Derived.Test.YtgihpfkjpfanmaaGreatQi10
import Derived.Test.YtgihpfkjpfanmaaGreatQi11
import Derived.Test.YtgihpfkjpfanmaaGreatQi12
import Derived.Test.YtgihpfkjpfanmaaGreatQi13
import Derived.Test.YtgihpfkjpfanmaaGreatQi14
import Derived.Test.YtgihpfkjpfanmaaGreatQi15
import Derived.Test.YtgihpfkjpfanmaaGreatQi16
namespace Go.Proofs.YtgihpfkjpfanmaaGreat

/-- The sum over the places that P names. -/
def msum (t : Nat → Rat) (x : Nat → Int) (P : Nat → Bool) : Nat → Rat
  | 0 => 0
  | n + 1 => msum t x P n + (if P n = true then t n * ((x n : Int) : Rat) else 0)

theorem msum_all (t : Nat → Rat) (x : Nat → Int) (P : Nat → Bool) (n : Nat) (h : ∀ i, i < n → P i = true) : msum t x P n = vsum t x (List.range n) := by
  induction n with
  | zero => rfl
  | succ n ih => rw [vsum_range_succ]; unfold msum; rw [ih (fun i hi => h i (by omega)), if_pos (h n (by omega))]
theorem msum_congr (t : Nat → Rat) (x y : Nat → Int) (P Q : Nat → Bool) (n : Nat) (h : ∀ i, i < n → P i = Q i) (h' : ∀ i, i < n → P i = true → x i = y i) : msum t x P n = msum t y Q n := by
  induction n with
  | zero => rfl
  | succ n ih =>
    unfold msum
    rw [ih (fun i hi => h i (by omega)) (fun i hi => h' i (by omega)), ← h n (by omega)]
    by_cases hp : P n = true
    · rw [if_pos hp, if_pos hp, h' n (by omega) hp]
    · rw [if_neg hp, if_neg hp]
theorem msum_split (t : Nat → Rat) (x : Nat → Int) (P Q R : Nat → Bool) (n : Nat) (h : ∀ i, i < n → (R i = true ↔ (P i = true ∨ Q i = true))) (hd : ∀ i, i < n → ¬ (P i = true ∧ Q i = true)) : msum t x R n = msum t x P n + msum t x Q n := by
  induction n with
  | zero => unfold msum; grind
  | succ n ih =>
    unfold msum
    rw [ih (fun i hi => h i (by omega)) (fun i hi => hd i (by omega))]
    have h1 := h n (by omega)
    have h2 := hd n (by omega)
    by_cases hp : P n = true
    · have hq : ¬ Q n = true := fun e => h2 ⟨hp, e⟩
      rw [if_pos (h1.2 (Or.inl hp)), if_pos hp, if_neg hq]; grind
    · by_cases hq : Q n = true
      · rw [if_pos (h1.2 (Or.inr hq)), if_neg hp, if_pos hq]; grind
      · rw [if_neg (fun e => (h1.1 e).elim hp hq), if_neg hp, if_neg hq]; grind
theorem msum_set (t : Nat → Rat) (x : Nat → Int) (P : Nat → Bool) (n b : Nat) (d : Int) (hb : b < n) (hP : P b = true) : msum t (fun j => if j = b then x b + d else x j) P n = msum t x P n + t b * ((d : Int) : Rat) := by
  induction n with
  | zero => omega
  | succ n ih =>
    unfold msum
    by_cases hn : b = n
    · subst hn
      rw [msum_congr t (fun j => if j = b then x b + d else x j) x P P b (fun _ _ => rfl) (fun i hi _ => if_neg (by omega)), if_pos hP, if_pos hP]
      simp only [if_true]
      push_cast
      grind
    · rw [ih (by omega)]
      have : (if n = b then x b + d else x n) = x n := if_neg (fun e => hn e.symm)
      simp only [this]
      grind
theorem msum_rsz (t : Nat → Rat) (x : Nat → Int) (P : Nat → Bool) (M n : Nat) (h : ∀ i, i < n → rsz (t i) ≤ M) (h' : ∀ i, i < n → P i = true → -9223372036854775808 ≤ x i ∧ x i ≤ 9223372036854775807) : rsz (msum t x P n) ≤ 1 + n * (M + 6) := by
  induction n with
  | zero => show rsz 0 ≤ _; have : rsz 0 ≤ 1 := by decide +kernel
            simpa using this
  | succ n ih =>
    have h5 := ih (fun i hi => h i (by omega)) (fun i hi => h' i (by omega))
    have h6 := h n (by omega)
    unfold msum
    rw [Nat.succ_mul]
    by_cases hp : P n = true
    · rw [if_pos hp]
      have h9 := h' n (by omega) hp
      have h7 := rsz_add (msum t x P n) (t n * ((x n : Int) : Rat))
      have h8 := rsz_mul (t n) ((x n : Int) : Rat)
      have := len_i64 (z := x n) (by omega) (by omega)
      omega
    · rw [if_neg hp, Rat.add_zero]; omega

/-- x is best in the island k. -/
structure Opt (n : Nat) (t : Nat → Rat) (isl lo hi x : Nat → Int) (k : Int) : Prop where
  box : ∀ i, i < n → isl i = k → lo i ≤ x i ∧ x i ≤ hi i
  zero : ksum isl x k (List.range n) = 0
  opt : ∀ i j, i < n → j < n → isl i = k → isl j = k → x i < hi i → lo j < x j → t i ≤ t j

theorem upper (t : Nat → Rat) (n : Nat) : ∃ τ, ∀ i, i < n → t i ≤ τ := by
  induction n with
  | zero => exact ⟨0, fun i hi => by omega⟩
  | succ n ih =>
    obtain ⟨τ, h⟩ := ih
    by_cases hle : t n ≤ τ
    · exact ⟨τ, fun i hi => by
        by_cases hn : i = n
        · subst hn; exact hle
        · exact h i (by omega)⟩
    · exact ⟨t n, fun i hi => by
        by_cases hn : i = n
        · subst hn; exact Rat.le_refl
        · have := h i (by omega); grind⟩
theorem lowest (t : Nat → Rat) (A : Nat → Prop) (n : Nat) : (∀ i, i < n → ¬ A i) ∨ ∃ j, j < n ∧ A j ∧ ∀ i, i < n → A i → t j ≤ t i := by
  induction n with
  | zero => exact Or.inl fun i hi => by omega
  | succ n ih =>
    by_cases ha : A n
    · right
      rcases ih with h | ⟨j, hj, hA, h⟩
      · exact ⟨n, by omega, ha, fun i hi hi' => by
          by_cases hn : i = n
          · subst hn; exact Rat.le_refl
          · exact absurd hi' (h i (by omega))⟩
      · by_cases hle : t j ≤ t n
        · exact ⟨j, by omega, hA, fun i hi hi' => by
            by_cases hn : i = n
            · subst hn; exact hle
            · exact h i (by omega) hi'⟩
        · exact ⟨n, by omega, ha, fun i hi hi' => by
            by_cases hn : i = n
            · subst hn; exact Rat.le_refl
            · have := h i (by omega) hi'; grind⟩
    · rcases ih with h | ⟨j, hj, hA, h⟩
      · exact Or.inl fun i hi hi' => by
          by_cases hn : i = n
          · subst hn; exact ha hi'
          · exact h i (by omega) hi'
      · exact Or.inr ⟨j, by omega, hA, fun i hi hi' => by
          by_cases hn : i = n
          · subst hn; exact absurd hi' ha
          · exact h i (by omega) hi'⟩

theorem mul_sub_nonneg {a b c d : Rat} (h : (c ≤ a ∧ d ≤ b) ∨ (a ≤ c ∧ b ≤ d)) : 0 ≤ (a - c) * (b - d) := by
  rcases h with ⟨h1, h2⟩ | ⟨h1, h2⟩
  · exact Rat.mul_nonneg (by grind) (by grind)
  · have := Rat.mul_nonneg (a := c - a) (b := d - b) (by grind) (by grind)
    have e : (a - c) * (b - d) = (c - a) * (d - b) := by grind
    rw [e]; exact this

theorem msum_le (t : Nat → Rat) (isl x v : Nat → Int) (k : Int) (τ : Rat) (n : Nat) (h1 : ∀ i, i < n → isl i = k → v i < x i → τ ≤ t i) (h2 : ∀ i, i < n → isl i = k → x i < v i → t i ≤ τ) :
    msum t v (fun i => isl i == k) n + τ * ((ksum isl x k (List.range n) - ksum isl v k (List.range n) : Int) : Rat) ≤ msum t x (fun i => isl i == k) n := by
  induction n with
  | zero =>
    unfold msum
    have e : τ * ((ksum isl x k (List.range 0) - ksum isl v k (List.range 0) : Int) : Rat) = 0 := by simp [ksum]
    rw [e]; grind
  | succ n ih =>
    have h5 := ih (fun i hi => h1 i (by omega)) (fun i hi => h2 i (by omega))
    rw [ksum_range_succ, ksum_range_succ]
    unfold msum
    by_cases hk : isl n = k
    · have hk' : (isl n == k) = true := by simpa using hk
      simp only [hk', if_true, if_pos hk]
      have h6 : 0 ≤ (t n - τ) * (((x n : Int) : Rat) - ((v n : Int) : Rat)) := by
        apply mul_sub_nonneg
        rcases Int.lt_trichotomy (x n) (v n) with h | h | h
        · right; exact ⟨h2 n (by omega) hk h, Rat.intCast_le_intCast.2 (by omega)⟩
        · rw [h]
          rcases Rat.le_total (a := τ) (b := t n) with g | g
          · exact Or.inl ⟨g, Rat.le_refl⟩
          · exact Or.inr ⟨g, Rat.le_refl⟩
        · left; exact ⟨h1 n (by omega) hk h, Rat.intCast_le_intCast.2 (by omega)⟩
      have e1 : ((ksum isl x k (List.range n) + x n - (ksum isl v k (List.range n) + v n) : Int) : Rat) = ((ksum isl x k (List.range n) - ksum isl v k (List.range n) : Int) : Rat) + (((x n : Int) : Rat) - ((v n : Int) : Rat)) := by
        push_cast; grind
      rw [e1]
      generalize ((ksum isl x k (List.range n) - ksum isl v k (List.range n) : Int) : Rat) = D at *
      generalize msum t v (fun i => isl i == k) n = A at *
      generalize msum t x (fun i => isl i == k) n = B at *
      generalize ((x n : Int) : Rat) = X at *
      generalize ((v n : Int) : Rat) = Y at *
      grind
    · have hk' : ¬ (isl n == k) = true := by simpa using hk
      simp only [if_neg hk', if_neg hk, Int.add_zero, Rat.add_zero]
      exact h5

theorem Opt.best {n : Nat} {t : Nat → Rat} {isl lo hi x : Nat → Int} {k : Int} (h : Opt n t isl lo hi x k) (v : Nat → Int) (hv : ∀ i, i < n → isl i = k → lo i ≤ v i ∧ v i ≤ hi i) (hz : ksum isl v k (List.range n) = 0) :
    msum t v (fun i => isl i == k) n ≤ msum t x (fun i => isl i == k) n := by
  have key : ∃ τ, (∀ i, i < n → isl i = k → v i < x i → τ ≤ t i) ∧ (∀ i, i < n → isl i = k → x i < v i → t i ≤ τ) := by
    rcases lowest t (fun i => isl i = k ∧ v i < x i) n with hA | ⟨j, hj, ⟨hjk, hjv⟩, hA⟩
    · obtain ⟨τ, hτ⟩ := upper t n
      exact ⟨τ, fun i hi h1 h2 => absurd ⟨h1, h2⟩ (hA i hi), fun i hi _ _ => hτ i hi⟩
    · refine ⟨t j, fun i hi h1 h2 => hA i hi ⟨h1, h2⟩, fun i hi h1 h2 => ?_⟩
      have a1 := hv i hi h1; have a2 := hv j hj hjk
      exact h.opt i j hi hj h1 hjk (by omega) (by omega)
  obtain ⟨τ, h1, h2⟩ := key
  have h3 := msum_le t isl x v k τ n h1 h2
  rw [h.zero, hz] at h3
  have e : τ * (((0 - 0 : Int)) : Rat) = 0 := by simp
  rw [e, Rat.add_zero] at h3
  exact h3

/-- q is the greatest sum. -/
structure Best (n : Nat) (t : Nat → Rat) (isl lo hi : Nat → Int) (q : Rat) : Prop where
  has : ∃ x, Inside n isl x lo hi ∧ q = vsum t x (List.range n)
  top : ∀ v, Inside n isl v lo hi → vsum t v (List.range n) ≤ q
theorem Best.unique {n : Nat} {t : Nat → Rat} {isl lo hi : Nat → Int} {p q : Rat} (h : Best n t isl lo hi p) (h' : Best n t isl lo hi q) : p = q := by
  obtain ⟨x, hx, ex⟩ := h.has
  obtain ⟨y, hy, ey⟩ := h'.has
  have h1 := h.top y hy
  have h2 := h'.top x hx
  rw [← ey] at h1; rw [← ex] at h2
  exact Rat.le_antisymm h2 h1

/-- The island of j is one of the first i. -/
def seen (isl : Nat → Int) (i j : Nat) : Bool := (List.range i).any fun m => isl m == isl j
theorem seen_iff {isl : Nat → Int} {i j : Nat} : seen isl i j = true ↔ ∃ m, m < i ∧ isl m = isl j := by
  unfold seen; simp
theorem seen_succ {isl : Nat → Int} {i j : Nat} : seen isl (i + 1) j = true ↔ (seen isl i j = true ∨ isl j = isl i) := by
  rw [seen_iff, seen_iff]
  constructor
  · rintro ⟨m, h1, h2⟩
    by_cases hm : m = i
    · subst hm; exact Or.inr h2.symm
    · exact Or.inl ⟨m, by omega, h2⟩
  · rintro (⟨m, h1, h2⟩ | h)
    · exact ⟨m, by omega, h2⟩
    · exact ⟨i, by omega, h.symm⟩

structure Upto (n : Nat) (t : Nat → Rat) (isl lo hi : Nat → Int) (i : Nat) (q : Rat) : Prop where
  has : ∃ x : Nat → Int, (∀ j, j < n → seen isl i j = true → lo j ≤ x j ∧ x j ≤ hi j) ∧ (∀ j, j < i → ksum isl x (isl j) (List.range n) = 0) ∧ q = msum t x (seen isl i) n
  top : ∀ v, Inside n isl v lo hi → msum t v (seen isl i) n ≤ q

theorem Upto.zero (n : Nat) (t : Nat → Rat) (isl lo hi : Nat → Int) : Upto n t isl lo hi 0 0 := by
  have e : ∀ x : Nat → Int, msum t x (seen isl 0) n = 0 := by
    intro x
    rw [msum_congr t x x (seen isl 0) (fun _ => false) n (fun i _ => by simp [seen]) (fun _ _ _ => rfl)]
    induction n with
    | zero => rfl
    | succ n ih => unfold msum; rw [ih]; grind
  refine ⟨⟨lo, fun j _ hj => by simp [seen] at hj, fun j hj => by omega, (e lo).symm⟩, fun v _ => by rw [e v]; exact Rat.le_refl⟩
theorem Upto.same {n : Nat} {t : Nat → Rat} {isl lo hi : Nat → Int} {i : Nat} {q : Rat} (h : Upto n t isl lo hi i q) (hs : seen isl i i = true) : Upto n t isl lo hi (i + 1) q := by
  have e : ∀ j, seen isl (i + 1) j = seen isl i j := by
    intro j
    rw [Bool.eq_iff_iff, seen_succ]
    constructor
    · rintro (h | h)
      · exact h
      · obtain ⟨m, h1, h2⟩ := seen_iff.1 hs
        exact seen_iff.2 ⟨m, h1, h2.trans h.symm⟩
    · exact Or.inl
  have e' : seen isl (i + 1) = seen isl i := funext e
  obtain ⟨x, h1, h2, h3⟩ := h.has
  refine ⟨⟨x, by rw [e']; exact h1, fun j hj => ?_, by rw [e']; exact h3⟩, by rw [e']; exact h.top⟩
  by_cases hji : j = i
  · subst hji
    obtain ⟨m, g1, g2⟩ := seen_iff.1 hs
    rw [← g2]; exact h2 m g1
  · exact h2 j (by omega)
theorem Upto.next {n : Nat} {t : Nat → Rat} {isl lo hi : Nat → Int} {i : Nat} {q : Rat} (h : Upto n t isl lo hi i q) (hs : seen isl i i = false) {y : Nat → Int} (hy : Opt n t isl lo hi y (isl i)) : Upto n t isl lo hi (i + 1) (q + msum t y (fun j => isl j == isl i) n) := by
  have hd : ∀ j, seen isl i j = true → isl j ≠ isl i := by
    intro j hj e
    obtain ⟨m, g1, g2⟩ := seen_iff.1 hj
    have := seen_iff.2 ⟨m, g1, g2.trans e⟩
    rw [hs] at this; exact absurd this (by decide)
  have hsp : ∀ x : Nat → Int, msum t x (seen isl (i + 1)) n = msum t x (seen isl i) n + msum t x (fun j => isl j == isl i) n := fun x =>
    msum_split t x _ _ _ n (fun j _ => by rw [seen_succ]; simp) (fun j _ ⟨g1, g2⟩ => hd j g1 (by simpa using g2))
  obtain ⟨x, h1, h2, h3⟩ := h.has
  refine ⟨⟨fun j => if isl j = isl i then y j else x j, fun j hj hsj => ?_, fun j hj => ?_, ?_⟩, fun v hv => ?_⟩
  · by_cases hk : isl j = isl i
    · simp only [if_pos hk]; exact hy.box j hj hk
    · simp only [if_neg hk]; exact h1 j hj ((seen_succ.1 hsj).resolve_right hk)
  · have key : ∀ (z : Nat → Int) (k : Int) (l : List Nat), (∀ a, isl a = k → (if isl a = isl i then y a else x a) = z a) → ksum isl (fun a => if isl a = isl i then y a else x a) k l = ksum isl z k l := by
      intro z k l hz
      induction l with
      | nil => rfl
      | cons a l ih =>
        unfold ksum
        rw [ih]
        by_cases ha : isl a = k
        · rw [if_pos ha, if_pos ha, hz a ha]
        · rw [if_neg ha, if_neg ha]
    by_cases hk : isl j = isl i
    · rw [hk, key y (isl i) _ (fun a ha => if_pos ha)]; exact hy.zero
    · rw [key x (isl j) _ (fun a ha => if_neg (by rw [ha]; exact hk))]
      exact h2 j (by
        by_cases hji : j = i
        · subst hji; exact absurd rfl hk
        · omega)
  · rw [hsp, h3]
    congr 1
    · exact msum_congr _ _ _ _ _ _ (fun _ _ => rfl) (fun j _ hj => (if_neg (hd j hj)).symm)
    · exact msum_congr _ _ _ _ _ _ (fun _ _ => rfl) (fun j _ hj => (if_pos (by simpa using hj)).symm)
  · rw [hsp]
    have g1 := h.top v hv
    have g2 := hy.best v (fun j hj _ => hv.box j hj) (hv.zero _)
    grind
theorem Upto.best {n : Nat} {t : Nat → Rat} {isl lo hi : Nat → Int} {q : Rat} (h : Upto n t isl lo hi n q) : Best n t isl lo hi q := by
  have hs : ∀ j, j < n → seen isl n j = true := fun j hj => seen_iff.2 ⟨j, hj, rfl⟩
  obtain ⟨x, h1, h2, h3⟩ := h.has
  refine ⟨⟨x, ⟨fun j hj => h1 j hj (hs j hj), fun k => ?_⟩, by rw [h3, msum_all _ _ _ _ hs]⟩, fun v hv => by rw [← msum_all _ _ _ _ hs]; exact h.top v hv⟩
  by_cases hk : ∃ j, j < n ∧ isl j = k
  · obtain ⟨j, hj, rfl⟩ := hk
    exact h2 j hj
  · clear h2
    have : ∀ l : List Nat, (∀ j ∈ l, isl j ≠ k) → ksum isl x k l = 0 := by
      intro l hl
      induction l with
      | nil => rfl
      | cons a l ih => unfold ksum; rw [if_neg (hl a List.mem_cons_self), ih (fun j hj => hl j (List.mem_cons_of_mem _ hj))]; rfl
    exact this _ (fun j hj e => hk ⟨j, List.mem_range.1 hj, e⟩)

theorem fill_has (t : Nat → Rat) (lo hi isl : Nat → Int) (l : List Nat) : ∀ m : Int → Int, l.Nodup → (∀ i ∈ l, lo i ≤ hi i) → (∀ k, 0 ≤ m k ∧ m k ≤ ksum isl (fun i => hi i - lo i) k l) →
    ∃ x : Nat → Int, (∀ i ∈ l, lo i ≤ x i ∧ x i ≤ hi i) ∧ (∀ k, ksum isl (fun i => x i - lo i) k l = m k) ∧ fillSum t lo hi isl l m = vsum t x l := by
  induction l with
  | nil =>
    intro m _ _ hm
    refine ⟨lo, (fun i hi => by cases hi), fun k => ?_, rfl⟩
    have := hm k
    unfold ksum at *
    omega
  | cons i l ih =>
    intro m hn hle hm
    obtain ⟨hi1, hn2⟩ := List.nodup_cons.1 hn
    have hmi := hm (isl i)
    have hli := hle i List.mem_cons_self
    obtain ⟨d, hd⟩ : ∃ d, d = moreOf lo hi isl m i := ⟨_, rfl⟩
    have hd' := hd
    unfold moreOf at hd'
    have hnn := fun k => ksum_nonneg isl (fun i => hi i - lo i) k l (fun j hj => by have := hle j (List.mem_cons_of_mem _ hj); omega)
    obtain ⟨x, h1, h2, h3⟩ := ih (fillM lo hi isl m i) hn2 (fun j hj => hle j (List.mem_cons_of_mem _ hj)) (fun k => by
      have hmk := hm k
      have hnk := hnn k
      unfold fillM
      rw [← hd]
      unfold ksum at hmk
      by_cases hk : k = isl i
      · subst hk
        rw [upd_self]
        rw [if_pos rfl] at hmk
        omega
      · rw [upd_other _ _ _ _ hk]
        rw [if_neg (fun e => hk e.symm)] at hmk
        omega)
    have hne : ∀ j ∈ l, j ≠ i := fun j hj e => hi1 (e ▸ hj)
    have e1 : ∀ k, ksum isl (fun j => (if j = i then lo i + d else x j) - lo j) k l = ksum isl (fun j => x j - lo j) k l := fun k =>
      ksum_congr _ _ _ _ _ _ (fun j hj => by simp only [if_neg (hne j hj)]) (fun _ _ => rfl)
    have e2 : ∀ l' : List Nat, (∀ j ∈ l', j ≠ i) → vsum t (fun j => if j = i then lo i + d else x j) l' = vsum t x l' := by
      intro l' hl'
      induction l' with
      | nil => rfl
      | cons a l' ih => unfold vsum; rw [ih (fun j hj => hl' j (List.mem_cons_of_mem _ hj)), if_neg (hl' a List.mem_cons_self)]
    refine ⟨fun j => if j = i then lo i + d else x j, fun j hj => ?_, fun k => ?_, ?_⟩
    · by_cases hji : j = i
      · subst hji; simp only [if_true]; omega
      · simp only [if_neg hji]; exact h1 j ((List.mem_cons.1 hj).resolve_left hji)
    · unfold ksum
      rw [e1, h2]
      simp only [if_true]
      unfold fillM
      rw [← hd]
      by_cases hk : isl i = k
      · subst hk; rw [if_pos rfl, upd_self]; omega
      · rw [if_neg hk, upd_other _ _ _ _ (fun e => hk e.symm)]; omega
    · unfold fillSum vsum
      rw [h3, e2 l hne, ← hd]
      simp only [if_true]

theorem some_keys (l : List Int) : ∃ K : List Int, K.Nodup ∧ ∀ k ∈ l, k ∈ K := by
  induction l with
  | nil => exact ⟨[], List.nodup_nil, fun k hk => hk⟩
  | cons a l ih =>
    obtain ⟨K, h1, h2⟩ := ih
    by_cases ha : a ∈ K
    · exact ⟨K, h1, fun k hk => (List.mem_cons.1 hk).elim (fun e => e ▸ ha) (h2 k)⟩
    · exact ⟨a :: K, List.nodup_cons.2 ⟨ha, h1⟩, fun k hk => (List.mem_cons.1 hk).elim (fun e => e ▸ List.mem_cons_self) (fun h => List.mem_cons_of_mem _ (h2 k h))⟩

theorem fill_best (t : Nat → Rat) (lo hi isl : Nat → Int) (n : Nat) (os : List Nat) (hp : os.Perm (List.range n)) (hs : os.Pairwise (fun i j => t j ≤ t i)) (hle : ∀ i, i < n → lo i ≤ hi i) (hg : ∀ k, keyP isl n k → 0 ≤ missF lo isl n k ∧ missF lo isl n k ≤ roomF lo hi isl n k) :
    Best n t isl lo hi (fillSum t lo hi isl os (missF lo isl n)) := by
  have hmem : ∀ i, i ∈ os ↔ i < n := fun i => by rw [hp.mem_iff, List.mem_range]
  have hall : ∀ k, 0 ≤ missF lo isl n k ∧ missF lo isl n k ≤ roomF lo hi isl n k := by
    intro k
    by_cases hk : keyP isl n k
    · exact hg k hk
    · have z : ∀ f : Nat → Int, ksum isl f k (List.range n) = 0 := by
        intro f
        have : ∀ l : List Nat, (∀ j ∈ l, isl j ≠ k) → ksum isl f k l = 0 := by
          intro l hl
          induction l with
          | nil => rfl
          | cons a l ih => unfold ksum; rw [if_neg (hl a List.mem_cons_self), ih (fun j hj => hl j (List.mem_cons_of_mem _ hj))]; rfl
        exact this _ (fun j hj e => hk ⟨j, List.mem_range.1 hj, e⟩)
      unfold missF roomF
      rw [z, z]; omega
  refine ⟨?_, fun v hv => ?_⟩
  · obtain ⟨x, h1, h2, h3⟩ := fill_has t lo hi isl os (missF lo isl n) (hp.nodup_iff.2 List.nodup_range) (fun i hi => hle i ((hmem i).1 hi)) (fun k => by
      have := hall k
      rw [ksum_perm _ _ _ hp]; exact this)
    refine ⟨x, ⟨fun i hi => h1 i ((hmem i).2 hi), fun k => ?_⟩, by rw [h3, vsum_perm _ _ hp]⟩
    have h4 := h2 k
    rw [ksum_perm _ _ _ hp, ksum_sub] at h4
    unfold missF at h4
    omega
  · obtain ⟨K, hK, hin⟩ := some_keys ((List.range n).map isl)
    have h1 := fill_greatest t lo hi isl v K hK os (missF lo isl n) (fun i hi => hin _ (List.mem_map.2 ⟨i, List.mem_range.2 ((hmem i).1 hi), rfl⟩)) hs (fun i hi => hv.box i ((hmem i).1 hi)) (fun k => by rw [hv.miss, ksum_perm _ _ _ hp])
    rw [vsum_perm _ _ hp] at h1
    exact h1

def OkI (n : Nat) (isl lo hi : Nat → Int) (k : Int) : Prop := (∀ i, i < n → isl i = k → lo i ≤ hi i) ∧ 0 ≤ missF lo isl n k ∧ missF lo isl n k ≤ roomF lo hi isl n k

structure GrAt (n : Nat) (t : Nat → Rat) (isl lo hi : Nat → Int) (k : Int) (x : Nat → Int) (u : Nat → Bool) (need : Int) : Prop where
  out : ∀ i, i < n → isl i ≠ k → u i = true
  box : ∀ i, i < n → isl i = k → lo i ≤ x i ∧ x i ≤ hi i
  fresh : ∀ i, i < n → isl i = k → u i = false → x i = lo i
  bal : ksum isl x k (List.range n) = -need
  pos : 0 ≤ need
  full : 0 < need → ∀ i, i < n → isl i = k → u i = true → x i = hi i
  ord : ∀ i j, i < n → j < n → isl i = k → isl j = k → u i = false → u j = true → t i ≤ t j
  opt : ∀ i j, i < n → j < n → isl i = k → isl j = k → x i < hi i → lo j < x j → t i ≤ t j

theorem GrAt.start {n : Nat} {t : Nat → Rat} {isl lo hi : Nat → Int} {k : Int} (hle : ∀ i, i < n → isl i = k → lo i ≤ hi i) (h0 : 0 ≤ missF lo isl n k) : GrAt n t isl lo hi k lo (fun i => isl i != k) (missF lo isl n k) := by
  refine ⟨fun i _ hk => by simpa using hk, fun i hi hk => ⟨Int.le_refl _, hle i hi hk⟩, fun _ _ _ _ => rfl, by unfold missF; omega, h0, fun _ i _ hk hu => ?_, fun i j _ _ _ hk _ hu => ?_, fun i j _ _ _ _ _ h => ?_⟩
  · simp [hk] at hu
  · simp [hk] at hu
  · omega
theorem GrAt.next {n : Nat} {t : Nat → Rat} {isl lo hi : Nat → Int} {k : Int} {x : Nat → Int} {u : Nat → Bool} {need : Int} (h : GrAt n t isl lo hi k x u need) (h0 : 0 < need) (b : Nat) (hb : b < n) (hu : u b = false) (hm : ∀ i, i < n → u i = false → t i ≤ t b) :
    GrAt n t isl lo hi k (fun j => if j = b then x b + min need (hi b - lo b) else x j) (fun j => if j = b then true else u j) (need - min need (hi b - lo b)) := by
  have hbk : isl b = k := by
    by_cases hk : isl b = k
    · exact hk
    · have := h.out b hb hk; rw [hu] at this; cases this
  have hbx := h.fresh b hb hbk hu
  have hbb := h.box b hb hbk
  have hfull := h.full h0
  obtain ⟨d, hd⟩ : ∃ d, d = min need (hi b - lo b) := ⟨_, rfl⟩
  rw [← hd]
  have hd' : 0 ≤ d ∧ d ≤ need ∧ d ≤ hi b - lo b ∧ (d = need ∨ d = hi b - lo b) := by omega
  refine ⟨fun i hi hk => ?_, fun i hi hk => ?_, fun i hi hk hui => ?_, ?_, by omega, fun hp i hi hk hui => ?_, fun i j hi hj hik hjk hui huj => ?_, fun i j hi' hj hik hjk hx1 hx2 => ?_⟩
  · split
    · rfl
    · exact h.out i hi hk
  · by_cases hib : i = b
    · subst hib; simp only [if_true]; omega
    · simp only [if_neg hib]; exact h.box i hi hk
  · by_cases hib : i = b
    · subst hib; simp at hui
    · simp only [if_neg hib] at hui ⊢; exact h.fresh i hi hk hui
  · rw [ksum_change isl x (fun j => if j = b then x b + d else x j) k n b hb (fun j _ hne => if_neg hne), h.bal]
    rw [if_pos hbk]
    simp only [if_true]
    omega
  · by_cases hib : i = b
    · subst hib; simp only [if_true]; omega
    · simp only [if_neg hib] at hui ⊢; exact hfull i hi hk hui
  · by_cases hib : i = b
    · subst hib; simp at hui
    · simp only [if_neg hib] at hui
      by_cases hjb : j = b
      · subst hjb; exact hm i hi hui
      · simp only [if_neg hjb] at huj; exact h.ord i j hi hj hik hjk hui huj
  · have hj2 : u j = true ∨ j = b := by
      by_cases hjb : j = b
      · exact Or.inr hjb
      · left
        simp only [if_neg hjb] at hx2
        cases hc : u j with
        | true => rfl
        | false => have := h.fresh j hj hjk hc; omega
    by_cases hib : i = b
    · subst hib
      rcases hj2 with hj2 | hj2
      · exact h.ord i j hi' hj hik hjk hu hj2
      · rw [hj2]; exact Rat.le_refl
    · simp only [if_neg hib] at hx1
      have hui : u i = false := by
        cases hc : u i with
        | false => rfl
        | true => have := hfull i hi' hik hc; omega
      rcases hj2 with hj2 | hj2
      · exact h.ord i j hi' hj hik hjk hui hj2
      · rw [hj2]; exact hm i hi' hui
theorem GrAt.done {n : Nat} {t : Nat → Rat} {isl lo hi : Nat → Int} {k : Int} {x : Nat → Int} {u : Nat → Bool} (h : GrAt n t isl lo hi k x u 0) : OkI n isl lo hi k ∧ Opt n t isl lo hi x k := by
  have hb := h.bal
  have key : ∀ (f : Nat → Int) (m : Nat), m ≤ n → (∀ i, i < n → isl i = k → 0 ≤ f i) → 0 ≤ ksum isl f k (List.range m) := by
    intro f m hm hf
    induction m with
    | zero => simp [ksum]
    | succ m ih =>
      rw [ksum_range_succ]
      have := ih (by omega)
      split
      · have := hf m (by omega) (by assumption); omega
      · omega
  refine ⟨⟨fun i hi hk => by have := h.box i hi hk; omega, ?_, ?_⟩, ⟨h.box, by omega, h.opt⟩⟩
  · have h1 := key (fun i => x i - lo i) n (Nat.le_refl _) (fun i hi hk => by have := h.box i hi hk; omega)
    rw [ksum_sub] at h1
    unfold missF; omega
  · have h1 := key (fun i => hi i - x i) n (Nat.le_refl _) (fun i hi hk => by have := h.box i hi hk; omega)
    rw [ksum_sub] at h1
    unfold missF roomF
    rw [ksum_sub]; omega
theorem GrAt.stuck {n : Nat} {t : Nat → Rat} {isl lo hi : Nat → Int} {k : Int} {x : Nat → Int} {u : Nat → Bool} {need : Int} (h : GrAt n t isl lo hi k x u need) (h0 : 0 < need) (hu : ∀ i, i < n → u i = true) : ¬ OkI n isl lo hi k := by
  rintro ⟨_, _, h2⟩
  have hb := h.bal
  have key : ∀ m, m ≤ n → ksum isl x k (List.range m) = ksum isl hi k (List.range m) := by
    intro m hm
    induction m with
    | zero => rfl
    | succ m ih =>
      rw [ksum_range_succ, ksum_range_succ, ih (by omega)]
      split
      · rw [h.full h0 m (by omega) (by assumption) (hu m (by omega))]
      · rfl
  rw [key n (Nat.le_refl _)] at hb
  unfold missF roomF at h2
  rw [ksum_sub] at h2
  omega

/-- The number of the places that are not used. -/
def cnt (u : Nat → Bool) : Nat → Nat
  | 0 => 0
  | n + 1 => cnt u n + (if u n = true then 0 else 1)
theorem cnt_set (u : Nat → Bool) (n b : Nat) (hb : b < n) (hu : u b = false) : cnt (fun j => if j = b then true else u j) n < cnt u n := by
  have same : ∀ m, m ≤ b → cnt (fun j => if j = b then true else u j) m = cnt u m := by
    intro m hm
    induction m with
    | zero => rfl
    | succ m ih => unfold cnt; rw [ih (by omega), if_neg (c := m = b) (by omega)]
  induction n with
  | zero => omega
  | succ n ih =>
    unfold cnt
    by_cases hn : b = n
    · subst hn; rw [same b (Nat.le_refl _)]; simp [hu]
    · have := ih (by omega)
      rw [if_neg (c := n = b) (fun e => hn e.symm)]; omega

/-- The best place among the first k that are not used. -/
def BestOf (t : Nat → Rat) (u : Nat → Bool) (k : Nat) (b : Int) : Prop := (b = -1 ∧ ∀ i, i < k → u i = true) ∨ ∃ m : Nat, b = (m : Int) ∧ m < k ∧ u m = false ∧ ∀ i, i < k → u i = false → t i ≤ t m
theorem BestOf.start (t : Nat → Rat) (u : Nat → Bool) : BestOf t u 0 (-1) := Or.inl ⟨rfl, fun _ hi => absurd hi (Nat.not_lt_zero _)⟩
theorem BestOf.skip {t : Nat → Rat} {u : Nat → Bool} {k : Nat} {b : Int} (h : BestOf t u k b) (hu : u k = true) : BestOf t u (k + 1) b := by
  rcases h with ⟨rfl, h⟩ | ⟨m, rfl, hm, hv, h⟩
  · refine Or.inl ⟨rfl, fun i hi => ?_⟩
    by_cases hk : i < k
    · exact h i hk
    · obtain rfl : i = k := by omega
      exact hu
  · refine Or.inr ⟨m, rfl, by omega, hv, fun i hi hw => ?_⟩
    by_cases hk : i < k
    · exact h i hk hw
    · obtain rfl : i = k := by omega
      rw [hu] at hw; cases hw
theorem BestOf.first {t : Nat → Rat} {u : Nat → Bool} {k : Nat} (h : BestOf t u k (-1)) (hu : u k = false) : BestOf t u (k + 1) (k : Int) := by
  rcases h with ⟨-, h⟩ | ⟨m, e, _⟩
  · refine Or.inr ⟨k, rfl, by omega, hu, fun i hi hw => ?_⟩
    by_cases hk : i < k
    · rw [h i hk] at hw; cases hw
    · obtain rfl : i = k := by omega
      exact Rat.le_refl
  · omega
theorem BestOf.more {t : Nat → Rat} {u : Nat → Bool} {k m : Nat} (h : BestOf t u k (m : Int)) (hu : u k = false) (hl : t m < t k) : BestOf t u (k + 1) (k : Int) := by
  rcases h with ⟨e, _⟩ | ⟨m', e, hm, hv, h⟩
  · omega
  · obtain rfl : m = m' := by omega
    refine Or.inr ⟨k, rfl, by omega, hu, fun i hi hw => ?_⟩
    by_cases hk : i < k
    · have := h i hk hw; grind
    · obtain rfl : i = k := by omega
      exact Rat.le_refl
theorem BestOf.stay {t : Nat → Rat} {u : Nat → Bool} {k m : Nat} (h : BestOf t u k (m : Int)) (hl : ¬ t m < t k) : BestOf t u (k + 1) (m : Int) := by
  rcases h with ⟨e, _⟩ | ⟨m', e, hm, hv, h⟩
  · omega
  · obtain rfl : m = m' := by omega
    refine Or.inr ⟨m, rfl, by omega, hv, fun i hi hw => ?_⟩
    by_cases hk : i < k
    · exact h i hk hw
    · obtain rfl : i = k := by omega
      exact Rat.not_lt.1 hl

end Go.Proofs.YtgihpfkjpfanmaaGreat


namespace Go.Proofs.YtgihpfkjpfanmaaGreat
open Go

/-- None of the last operations has come; one of them has. -/
def noZ (Z : Nat → Bool) (ls : Array Bool) : Prop := ∀ j, Z j = true → ls.getD j false = false
def lateB (Z : Nat → Bool) (ls : Array Bool) : Bool := (List.range ls.size).any fun j => Z j && ls.getD j false
theorem noZ_set {Z : Nat → Bool} {ls : Array Bool} {j : Nat} (h : noZ Z (ls.setIfInBounds j true)) : noZ Z ls := by
  intro k hk
  have h1 := h k hk
  by_cases hjk : j = k
  · subst hjk
    by_cases hl : j < ls.size
    · simp [Array.getD, hl] at h1
    · simp [Array.getD, hl]
  · rw [getD_set_ne false hjk] at h1; exact h1
theorem noZ_keep {Z : Nat → Bool} {ls : Array Bool} {j : Nat} (h : noZ Z ls) (hj : Z j = false) : noZ Z (ls.setIfInBounds j true) := by
  intro k hk
  by_cases hjk : j = k
  · subst hjk; rw [hk] at hj; cases hj
  · rw [getD_set_ne false hjk]; exact h k hk
theorem not_noZ {Z : Nat → Bool} {ls : Array Bool} (h : lateB Z ls = true) : ¬ noZ Z ls := by
  intro hn
  obtain ⟨j, _, h2⟩ := List.any_eq_true.1 h
  rw [Bool.and_eq_true] at h2
  rw [hn j h2.1] at h2
  exact absurd h2.2 (by decide)

section
variable {P : Program} {ops : Array Oper} {Q : Exit → Act → World → Prop} {md : Region.Mode} {S R : World → Prop} {Z : Nat → Bool}

/-- Whatever order is picked; the condition S is shown behind each operation, and R as long as none of Z has come. -/
def wpAnyY (P : Program) (md : Region.Mode) (ops : Array Oper) (Q : Exit → Act → World → Prop) (S R : World → Prop) (Z : Nat → Bool) : Nat → Array Bool → Act → World → Prop
  | 0, ls, a, w => Region.ready md ops ls = [] ∧ Q .normal a w
  | n + 1, ls, a, w => (Region.ready md ops ls = [] → Q .normal a w) ∧
    ∀ i ∈ Region.ready md ops ls, wpOp P ops Q i (fun a' w' => S w' ∧ (noZ Z (ls.setIfInBounds i true) → R w') ∧ wpAnyY P md ops Q S R Z n (ls.setIfInBounds i true) a' w') a w

theorem wpAny_of_Y : ∀ (n : Nat) (ls : Array Bool) (a : Act) (w : World), wpAnyY P md ops Q S R Z n ls a w → wpAny P md ops Q n ls a w
  | 0, _, _, _, h => h
  | n + 1, _, _, _, h => ⟨h.1, fun i hi => wpOp_mono (fun a' w' h' => wpAny_of_Y n _ a' w' h'.2.2) (h.2 i hi)⟩

theorem wpAnyY_first {T : World → Prop} {i : Nat} {oi : Oper} {v : Value} (hi : ops[i]? = some oi) (hzi : Z i = false) (hsel : ∀ (j : Nat) (o : Oper) cs b, ops[j]? = some o → o.op ≠ .select cs b)
    (hQ : ∀ c a w, Q (.panic c) (a.put oi.dst v) w → Q (.panic c) a w)
    (hT : (∀ w, S w → T w) ∨ ((∀ w, S w → R w → T w) ∧ ∀ j oj, ops[j]? = some oj → Z j = true → ∃ e ∈ oj.after, Region.binds md e = true ∧ e.on = i)) :
    ∀ (n : Nat) (ls : Array Bool) (a : Act) (w : World),
      (∀ j oj, ops[j]? = some oj → j ≠ i → ls.getD j true = false → (∀ e ∈ oj.after, Region.binds md e = true → e.on ≠ i) → oi.apart ops oj = true) →
      i ∈ Region.ready md ops ls → YieldsIf P ops T oi v a → S w → (noZ Z ls → R w) → ((∀ w, S w → T w) ∨ noZ Z ls) →
      wpAnyY P md ops Q S R Z n (ls.setIfInBounds i true) (a.put oi.dst v) w → wpAnyY P md ops Q S R Z (n + 1) ls a w := by
  have now : ∀ (ls : Array Bool) (w : World), S w → (noZ Z ls → R w) → ((∀ w, S w → T w) ∨ noZ Z ls) → T w := by
    intro ls w hS hR hn
    rcases hn with h | h
    · exact h w hS
    · rcases hT with h' | h'
      · exact h' w hS
      · exact h'.1 w hS (hR h)
  intro n
  induction n with
  | zero =>
    intro ls a w _ hr hy hS hR hn H
    refine ⟨fun h => (by rw [h] at hr; cases hr), fun j hj => ?_⟩
    by_cases hji : j = i
    · subst hji; exact hy.wpOp hi (now ls w hS hR hn) ⟨hS, fun h => hR (noZ_set h), H⟩
    · have := ready_mono hj hji
      rw [H.1] at this
      cases this
  | succ n ih =>
    intro ls a w hfree hr hy hS hR hn H
    refine ⟨fun h => (by rw [h] at hr; cases hr), fun j hj => ?_⟩
    by_cases hji : j = i
    · subst hji; exact hy.wpOp hi (now ls w hS hR hn) ⟨hS, fun h => hR (noZ_set h), H⟩
    · have h1 := H.2 j (ready_mono hj hji)
      obtain ⟨hjun, oj, hoj, hall⟩ := mem_ready.1 hj
      have hnot : ∀ e ∈ oj.after, Region.binds md e = true → e.on ≠ i := fun e he hb heq => by
        have h1 := hall e he hb
        have h0 := (mem_ready.1 hr).1
        rw [heq] at h1
        rcases Nat.lt_or_ge i ls.size with h' | h'
        · simp [h'] at h0 h1; rw [h0] at h1; cases h1
        · simp [Array.getElem?_eq_none h'] at h1
      have hn' : (∀ w, S w → T w) ∨ noZ Z (ls.setIfInBounds j true) := by
        rcases hT with h' | h'
        · exact Or.inl h'
        · rcases hn with h'' | h''
          · exact Or.inl h''
          · refine Or.inr (noZ_keep h'' ?_)
            cases hz : Z j with
            | false => rfl
            | true =>
              obtain ⟨e, he, hb, heq⟩ := h'.2 j oj hoj hz
              exact absurd heq (hnot e he hb)
      have h2 := wpOp_putIf hoj (hfree j oj hoj hji hjun hnot) (fun cs b => hsel i oi cs b hi) (fun cs b => hsel j oj cs b hoj) hQ hy h1
      have hfree' : ∀ k ok, ops[k]? = some ok → k ≠ i → (ls.setIfInBounds j true).getD k true = false →
          (∀ e ∈ ok.after, Region.binds md e = true → e.on ≠ i) → oi.apart ops ok = true := fun k ok hk hki hun hno => by
        refine hfree k ok hk hki ?_ hno
        by_cases hjk : j = k
        · subst hjk; exact hjun
        · rw [getD_set_ne true hjk] at hun; exact hun
      have hcomm : ∀ l : Array Bool, (l.setIfInBounds i true).setIfInBounds j true = (l.setIfInBounds j true).setIfInBounds i true := fun l => by rw [Array.setIfInBounds_comm _ _ hji]
      refine wpOp_mono (fun a' w' h3 => ?_) h2
      have h4 : noZ Z (ls.setIfInBounds j true) → R w' := fun hz => h3.2.2.1 (by rw [hcomm]; exact noZ_keep hz hzi)
      exact ⟨h3.2.1, h4, ih (ls.setIfInBounds j true) a' w' hfree' (ready_mono hr (Ne.symm hji)) h3.1 h3.2.1 h4 hn' (by rw [← hcomm]; exact h3.2.2.2)⟩

/-- Operation i is taken first; it reads what S names. -/
theorem wpAnyY_take {i : Nat} {oi : Oper} {v : Value} {n : Nat} {ls : Array Bool} {a : Act} {w : World} (hi : ops[i]? = some oi)
    (hs : Region.noSelect ops = true) (hf : Region.free md ops ls i = true) (hr : (Region.ready md ops ls).contains i = true) (hzi : Z i = false)
    (hQ : ∀ c a w, Q (.panic c) (a.put oi.dst v) w → Q (.panic c) a w) (hy : YieldsIf P ops S oi v a) (hS : S w) (hR : R w ∨ lateB Z ls = true)
    (h : wpAnyY P md ops Q S R Z n (ls.setIfInBounds i true) (a.put oi.dst v) w) : wpAnyY P md ops Q S R Z (n + 1) ls a w :=
  wpAnyY_first (T := S) hi hzi (Region.noSelect_spec hs) hQ (Or.inl fun _ h => h) n ls a w (Region.free_spec hi hf) (by simpa using hr) hy hS (fun hn => hR.elim id (fun h => absurd hn (not_noZ h))) (Or.inl fun _ h => h) h
/-- Operation i is taken first; it reads what S and R name, and all of Z wait for it. -/
theorem wpAnyY_takeR {i : Nat} {oi : Oper} {v : Value} {n : Nat} {ls : Array Bool} {a : Act} {w : World} (hi : ops[i]? = some oi)
    (hs : Region.noSelect ops = true) (hf : Region.free md ops ls i = true) (hr : (Region.ready md ops ls).contains i = true) (hzi : Z i = false) (hz : zWaits md ops Z i = true) (hl : lateB Z ls = false)
    (hQ : ∀ c a w, Q (.panic c) (a.put oi.dst v) w → Q (.panic c) a w) (hy : YieldsIf P ops (fun w => S w ∧ R w) oi v a) (hS : S w) (hR : R w)
    (h : wpAnyY P md ops Q S R Z n (ls.setIfInBounds i true) (a.put oi.dst v) w) : wpAnyY P md ops Q S R Z (n + 1) ls a w :=
  wpAnyY_first (T := fun w => S w ∧ R w) hi hzi (Region.noSelect_spec hs) hQ (Or.inr ⟨fun _ h1 h2 => ⟨h1, h2⟩, zWaits_spec hz⟩) n ls a w (Region.free_spec hi hf) (by simpa using hr) hy hS (fun _ => hR) (Or.inr fun j hj => by
    by_cases hjl : j < ls.size
    · have h1 := List.any_eq_false.1 hl j (List.mem_range.2 hjl)
      rw [hj, Bool.true_and] at h1
      simpa using h1
    · simp [Array.getD, hjl]) h

def AllReadyY (P : Program) (md : Region.Mode) (ops : Array Oper) (Q : Exit → Act → World → Prop) (S R : World → Prop) (Z : Nat → Bool) (n : Nat) (ls : Array Bool) (a : Act) (w : World) (rs : List Nat) : Prop :=
  ∀ i ∈ rs, wpOp P ops Q i (fun a' w' => S w' ∧ (noZ Z (ls.setIfInBounds i true) → R w') ∧ wpAnyY P md ops Q S R Z n (ls.setIfInBounds i true) a' w') a w
theorem AllReadyY.nil {n : Nat} {ls : Array Bool} {a : Act} {w : World} : AllReadyY P md ops Q S R Z n ls a w [] := fun _ h => by cases h
/-- An operation comes up behind which S and R are shown. -/
theorem AllReadyY.cons {n : Nat} {ls : Array Bool} {a : Act} {w : World} {i : Nat} {o : Oper} {rs : List Nat} (ho : ops[i]? = some o)
    (h : ∀ K' : Act → World → Prop, Shut (∀ a w, S w → R w → (S w → R w → wpAnyY P md ops Q S R Z n (ls.setIfInBounds i true) a w) → K' a w) → if Region.wanted o (yielded ops a.tmps) = true then Oper.wp P o a w K' Q else K' (a.put o.dst undef) w)
    (hs : AllReadyY P md ops Q S R Z n ls a w rs) : AllReadyY P md ops Q S R Z n ls a w (i :: rs) := fun j hj => by
  rcases List.mem_cons.1 hj with rfl | hj
  · exact wpOp_step ho (fun K' hK => h K' (fun a w hS hR hW => hK a w ⟨hS, fun _ => hR, hW hS hR⟩))
  · exact hs j hj
/-- A last operation comes up, or one behind them: S alone is shown. -/
theorem AllReadyY.late {n : Nat} {ls : Array Bool} {a : Act} {w : World} {i : Nat} {o : Oper} {rs : List Nat} (ho : ops[i]? = some o) (hz : lateB Z (ls.setIfInBounds i true) = true)
    (h : ∀ K' : Act → World → Prop, Shut (∀ a w, S w → (S w → wpAnyY P md ops Q S R Z n (ls.setIfInBounds i true) a w) → K' a w) → if Region.wanted o (yielded ops a.tmps) = true then Oper.wp P o a w K' Q else K' (a.put o.dst undef) w)
    (hs : AllReadyY P md ops Q S R Z n ls a w rs) : AllReadyY P md ops Q S R Z n ls a w (i :: rs) := fun j hj => by
  rcases List.mem_cons.1 hj with rfl | hj
  · exact wpOp_step ho (fun K' hK => h K' (fun a w hS hW => hK a w ⟨hS, fun e => absurd e (not_noZ hz), hW hS⟩))
  · exact hs j hj
theorem wpAnyY_ready {rs : List Nat} {n : Nat} {ls : Array Bool} {a : Act} {w : World} (hr : Region.ready md ops ls = rs) (hne : rs ≠ [])
    (h : AllReadyY P md ops Q S R Z n ls a w rs) : wpAnyY P md ops Q S R Z (n + 1) ls a w := ⟨fun h0 => absurd (hr ▸ h0) hne, hr ▸ h⟩
theorem wpAnyY_done {ls : Array Bool} {a : Act} {w : World} (hr : Region.ready md ops ls = []) (h : Q .normal a w) : ∀ n, wpAnyY P md ops Q S R Z n ls a w
  | 0 => ⟨hr, h⟩
  | _ + 1 => ⟨fun _ => h, by rw [hr]; simp⟩
/-- The beginning. -/
theorem wp_region_Y {id : Nat} {a : Act} {w : World} (S R : World → Prop) (Z : Nat → Bool) (hm : P.follows .mixedOrders = true) (hS : S w.drew) (hR : R w.drew)
    (h : S w.drew → R w.drew → wpAnyY P .any ops Q S R Z ops.size (Array.replicate ops.size false) a w.drew) : (Code.region id ops true).wp P Q a w :=
  wp_region_any hm (wpAny_of_Y _ _ _ _ (h hS hR))
end

end Go.Proofs.YtgihpfkjpfanmaaGreat
