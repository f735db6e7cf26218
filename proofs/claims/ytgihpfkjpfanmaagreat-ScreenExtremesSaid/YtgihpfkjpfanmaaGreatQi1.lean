/- Texts of the proof: Num, Base, Nat1, Nat2, Nat3, Nat4. -/
import Derived.KernelRfl
import Derived.WalkKit
import Derived.WalkSpells
import Derived.Sort.Grow
import Derived.Lib.Hide
import Derived.Laws.CopyOwn
import Derived.Laws.BitsAllLaws
import Derived.Deep.QuietTactic
import Derived.BigQuiet
import Derived.Test.YtgihpfkjpfanmaaGreatRows
import Derived.WalkLawsBesides
import Derived.Deep.RegionWith
import Derived.Deep.RegionHeld3
namespace Go.Proofs.YtgihpfkjpfanmaaGreat

/-- The value of a list of limbs. -/
def val : List Nat → Nat
  | [] => 0
  | x :: xs => x + 4294967296 * val xs

/-- All limbs are below 2^32. -/
def Small (l : List Nat) : Prop := ∀ x ∈ l, x < 4294967296

theorem Small.tail {x : Nat} {l : List Nat} (h : Small (x :: l)) : Small l := fun y hy => h y (List.mem_cons_of_mem _ hy)
theorem Small.take {l : List Nat} (h : Small l) (k : Nat) : Small (l.take k) := fun y hy => h y (List.mem_of_mem_take hy)
theorem Small.drop {l : List Nat} (h : Small l) (k : Nat) : Small (l.drop k) := fun y hy => h y (List.mem_of_mem_drop hy)
theorem Small.nil : Small [] := fun _ h => by cases h
theorem Small.append {l m : List Nat} (h : Small l) (h' : Small m) : Small (l ++ m) := fun y hy => by
  rcases List.mem_append.1 hy with h1 | h1
  · exact h y h1
  · exact h' y h1
theorem Small.one {x : Nat} (h : x < 4294967296) : Small [x] := fun y hy => by
  simp at hy; omega
theorem Small.set {l : List Nat} (h : Small l) (k x : Nat) (hx : x < 4294967296) : Small (l.set k x) := fun y hy => by
  rcases List.mem_or_eq_of_mem_set hy with h1 | h1
  · exact h y h1
  · omega
theorem Small.replicate (n : Nat) : Small (List.replicate n 0) := fun y hy => by
  have := List.eq_of_mem_replicate hy; omega

theorem val_append (l m : List Nat) : val (l ++ m) = val l + 4294967296 ^ l.length * val m := by
  induction l with
  | nil => simp [val]
  | cons x xs ih =>
    simp only [List.cons_append, val, ih, List.length_cons, Nat.pow_succ, Nat.mul_add, Nat.add_assoc]
    rw [← Nat.mul_assoc, Nat.mul_comm 4294967296 (4294967296 ^ xs.length)]

theorem val_lt {l : List Nat} (h : Small l) : val l < 4294967296 ^ l.length := by
  induction l with
  | nil => simp [val]
  | cons x xs ih =>
    have h1 := ih h.tail
    have h2 := h x (List.mem_cons_self ..)
    simp only [val, List.length_cons, Nat.pow_succ]
    generalize 4294967296 ^ xs.length = p at *
    omega

theorem val_single (x : Nat) : val [x] = x := by simp [val]

theorem val_replicate (n : Nat) : val (List.replicate n 0) = 0 := by
  induction n with
  | zero => rfl
  | succ n ih => simp [List.replicate_succ, val, ih]

/-- The limb at a place, 0 beyond the end. -/
def limb (l : List Nat) (i : Nat) : Nat := l[i]?.getD 0

theorem limb_lt {l : List Nat} (h : Small l) (i : Nat) : limb l i < 4294967296 := by
  unfold limb
  by_cases hi : i < l.length
  · rw [List.getElem?_eq_getElem hi]; exact h _ (List.getElem_mem hi)
  · rw [List.getElem?_eq_none (by omega)]; simp

theorem take_limb {l : List Nat} {k : Nat} (h : k < l.length) : l.take (k + 1) = l.take k ++ [limb l k] := by
  rw [List.take_succ_eq_append_getElem h]; simp [limb, h]

theorem val_take_succ {l : List Nat} {k : Nat} (h : k < l.length) : val (l.take (k + 1)) = val (l.take k) + 4294967296 ^ k * limb l k := by
  rw [take_limb h, val_append, val_single, List.length_take, Nat.min_eq_left (by omega)]

theorem val_drop_succ {l : List Nat} {k : Nat} (h : k < l.length) : val (l.drop k) = limb l k + 4294967296 * val (l.drop (k + 1)) := by
  rw [List.drop_eq_getElem_cons h]; simp [val, limb, h]

theorem val_take_drop (l : List Nat) (k : Nat) (h : k ≤ l.length) : val l = val (l.take k) + 4294967296 ^ k * val (l.drop k) := by
  conv => lhs; rw [← List.take_append_drop k l]
  rw [val_append, List.length_take, Nat.min_eq_left h]

theorem limb_append_left {l m : List Nat} {i : Nat} (h : i < l.length) : limb (l ++ m) i = limb l i := by
  unfold limb; rw [List.getElem?_append_left h]
theorem limb_take {l : List Nat} {k i : Nat} (h : i < k) : limb (l.take k) i = limb l i := by
  unfold limb; rw [List.getElem?_take, if_pos h]

/-- The number of limbs of a number. -/
def len (n : Nat) : Nat := if n = 0 then 0 else n.log2 / 32 + 1

theorem pow_eq (k : Nat) : (4294967296 : Nat) ^ k = 2 ^ (32 * k) := by
  rw [show (4294967296 : Nat) = 2 ^ 32 from by decide, ← Nat.pow_mul]

theorem len_le {n k : Nat} : len n ≤ k ↔ n < 4294967296 ^ k := by
  unfold len
  rw [pow_eq]
  by_cases h : n = 0
  · subst h; simp [Nat.two_pow_pos]
  · rw [if_neg h, ← Nat.log2_lt h]; omega

theorem lt_len {n k : Nat} : k < len n ↔ 4294967296 ^ k ≤ n := by
  have := @len_le n k; omega

theorem len_zero : len 0 = 0 := rfl
theorem len_eq_zero {n : Nat} : len n = 0 ↔ n = 0 := by
  have := @len_le n 0; simp at this; omega
theorem len_pos {n : Nat} : 0 < len n ↔ 0 < n := by
  have := @len_eq_zero n; omega
theorem lt_pow_len (n : Nat) : n < 4294967296 ^ len n := len_le.1 (Nat.le_refl _)
theorem len_mono {m n : Nat} (h : m ≤ n) : len m ≤ len n := len_le.2 (Nat.lt_of_le_of_lt h (lt_pow_len n))
theorem len_one {n : Nat} (h : 0 < n) (h' : n < 4294967296) : len n = 1 := by
  have h1 := @len_le n 1; have h2 := @len_le n 0; simp at h1 h2; omega
theorem len_le_one {n : Nat} : len n ≤ 1 ↔ n < 4294967296 := by have := @len_le n 1; simpa using this
theorem len_le_two {n : Nat} : len n ≤ 2 ↔ n < 18446744073709551616 := by have := @len_le n 2; simpa using this

theorem len_val_le {l : List Nat} (h : Small l) : len (val l) ≤ l.length := len_le.2 (val_lt h)

/-- A list whose last limb is not 0 has as many limbs as its value. -/
theorem len_val {l : List Nat} (h : Small l) (h1 : 0 < l.length) (h2 : limb l (l.length - 1) ≠ 0) : len (val l) = l.length := by
  have h3 := len_val_le h
  have h4 := val_take_succ (l := l) (k := l.length - 1) (by omega)
  rw [show l.length - 1 + 1 = l.length from by omega, List.take_length] at h4
  have h5 : 4294967296 ^ (l.length - 1) ≤ val l := by
    rw [h4]
    have : 4294967296 ^ (l.length - 1) * 1 ≤ 4294967296 ^ (l.length - 1) * limb l (l.length - 1) := Nat.mul_le_mul_left _ (by omega)
    omega
  have := lt_len.2 h5
  omega

/-- Two lists of one length with equal values are equal. -/
theorem val_inj : ∀ {l m : List Nat}, Small l → Small m → l.length = m.length → val l = val m → l = m
  | [], [], _, _, _, _ => rfl
  | x :: xs, y :: ys, hl, hm, h, hv => by
    have a := hl x (List.mem_cons_self ..)
    have b := hm y (List.mem_cons_self ..)
    simp only [val] at hv
    simp only [List.length_cons] at h
    have e : val xs = val ys := by omega
    have e' : x = y := by omega
    rw [val_inj hl.tail hm.tail (by omega) e, e']

theorem val_take_of_le {l : List Nat} (_h : Small l) {k : Nat} (hk : k ≤ l.length) (hn : len (val l) ≤ k) : val (l.take k) = val l := by
  have h1 := val_take_drop l k hk
  have h2 := len_le.1 hn
  have h3 : val (l.drop k) = 0 := by
    apply Nat.eq_zero_of_not_pos
    intro h4
    have : 4294967296 ^ k * 1 ≤ 4294967296 ^ k * val (l.drop k) := Nat.mul_le_mul_left _ h4
    omega
  rw [h1, h3]; simp

theorem top_ne_zero {l : List Nat} (h : Small l) (h1 : 0 < l.length) (h2 : l.length = len (val l)) : limb l (l.length - 1) ≠ 0 := by
  intro h3
  have h4 := val_take_succ (l := l) (k := l.length - 1) (by omega)
  rw [show l.length - 1 + 1 = l.length from by omega, List.take_length, h3] at h4
  have h5 := val_lt (h.take (l.length - 1))
  rw [List.length_take, Nat.min_eq_left (by omega)] at h5
  have h6 : len (val l) ≤ l.length - 1 := len_le.2 (by omega)
  omega

theorem val_split (l : List Nat) (k : Nat) (h : k < l.length) : val l = val (l.take k) + 4294967296 ^ k * (limb l k + 4294967296 * val (l.drop (k + 1))) := by
  rw [← val_drop_succ h]; exact val_take_drop l k (by omega)

/-- The first limb from above in which two lists differ decides. -/
theorem val_lt_of {l m : List Nat} (hl : Small l) {k : Nat} (h1 : k < l.length) (h2 : k < m.length) (hd : val (l.drop (k + 1)) = val (m.drop (k + 1))) (hlt : limb l k < limb m k) : val l < val m := by
  rw [val_split l k h1, val_split m k h2, hd]
  have h3 := val_lt (hl.take k)
  rw [List.length_take, Nat.min_eq_left (by omega)] at h3
  generalize val (m.drop (k + 1)) = d at *
  have h4 : 4294967296 ^ k * (limb l k + 4294967296 * d) + 4294967296 ^ k ≤ 4294967296 ^ k * (limb m k + 4294967296 * d) := by
    rw [← Nat.mul_succ]; exact Nat.mul_le_mul_left _ (by omega)
  omega

theorem val_set {l : List Nat} {k : Nat} (h : k < l.length) (x : Nat) : val (l.set k x) + 4294967296 ^ k * limb l k = val l + 4294967296 ^ k * x := by
  have h1 := val_split l k h
  have h2 := val_split (l.set k x) k (by simpa using h)
  rw [List.take_set_of_le (by omega), List.drop_set_of_lt (by omega)] at h2
  have h3 : limb (l.set k x) k = x := by simp [limb, h]
  rw [h3] at h2
  rw [Nat.mul_add] at h1 h2
  omega
theorem limb_set_ne {l : List Nat} {k t : Nat} (h : k ≠ t) (x : Nat) : limb (l.set k x) t = limb l t := by simp [limb, h]
theorem limb_set_eq {l : List Nat} {k : Nat} (h : k < l.length) (x : Nat) : limb (l.set k x) k = x := by simp [limb, h]
theorem limb_replicate (n i : Nat) : limb (List.replicate n 0) i = 0 := by
  unfold limb; by_cases h : i < n <;> simp [h]
theorem limb_ge {l : List Nat} {i : Nat} (h : l.length ≤ i) : limb l i = 0 := by unfold limb; rw [List.getElem?_eq_none h]; rfl

/-- One limb of a difference. -/
theorem sub_step {L M r : List Nat} {i q x y z q' : Nat} (h1 : i < L.length) (hr : r.length = i) (hv : val r + val (M.take i) = val (L.take i) + 4294967296 ^ i * q) (hM : i < M.length ∨ M.length ≤ i)
    (hx : limb L i = x) (hy : limb M i = y) (hz : z + y + q = x + 4294967296 * q') :
    val (r ++ [z]) + val (M.take (i + 1)) = val (L.take (i + 1)) + 4294967296 ^ (i + 1) * q' := by
  rw [val_append, val_single, hr, val_take_succ h1, hx]
  have e : val (M.take (i + 1)) = val (M.take i) + 4294967296 ^ i * y := by
    rcases hM with h | h
    · rw [← hy]; exact val_take_succ h
    · rw [List.take_of_length_le (by omega), List.take_of_length_le (by omega), ← hy, limb_ge h]; simp
  rw [e, Nat.pow_succ, Nat.mul_assoc]
  generalize 4294967296 ^ i = p at *
  have e2 : p * z + p * y + p * q = p * x + p * (4294967296 * q') := by
    rw [← Nat.mul_add, ← Nat.mul_add, ← Nat.mul_add, hz]
  omega

theorem val_drop_set {l : List Nat} {i : Nat} (h : i < l.length) (x : Nat) : val ((l.set i x).drop i) = x + 4294967296 * val (l.drop (i + 1)) := by
  rw [val_drop_succ (by simpa using h), limb_set_eq h, List.drop_set_of_lt (by omega)]

theorem div_step {V d r x R : Nat} (h0 : 0 < d) (hr : r < d) (hx : x < 4294967296) (hv : V * d + r = R) :
    ((x + 4294967296 * r) / d + 4294967296 * V) * d + (x + 4294967296 * r) % d = x + 4294967296 * R ∧ (x + 4294967296 * r) / d < 4294967296 := by
  constructor
  · have := Nat.div_add_mod (x + 4294967296 * r) d
    rw [Nat.add_mul, Nat.mul_assoc, Nat.mul_comm _ d, ← hv]
    omega
  · rw [Nat.div_lt_iff_lt_mul h0]
    have : 4294967296 * (r + 1) ≤ 4294967296 * d := Nat.mul_le_mul_left _ hr
    omega

end Go.Proofs.YtgihpfkjpfanmaaGreat


namespace Go.Proofs.YtgihpfkjpfanmaaGreat
open Go.RowKit Go.Sort

/-- w' is w with some draws and some new blocks. -/
structure Ext (w w' : World) : Prop where
  below : Below w.heap.size w w'
  drawn : w.drawn ≤ w'.drawn

theorem Ext.refl (w : World) : Ext w w := ⟨Below.refl _ _, Nat.le_refl _⟩
theorem Ext.size {w w' : World} (h : Ext w w') : w.heap.size ≤ w'.heap.size := h.below.size
theorem Ext.trans {a b c : World} (h : Ext a b) (k : Ext b c) : Ext a c := ⟨h.below.trans (k.below.mono h.size), Nat.le_trans h.drawn k.drawn⟩
theorem Ext.alloc {a w : World} (h : Ext a w) (o : Obj) : Ext a (w.alloc o) := ⟨h.below.alloc h.size o, h.drawn⟩
theorem Ext.drew {a w : World} (h : Ext a w) : Ext a w.drew := ⟨h.below.drew, Nat.le_succ_of_le h.drawn⟩
theorem Ext.drewN {a w : World} (h : Ext a w) (n : Nat) : Ext a (w.drewN n) := ⟨⟨h.below.os, h.below.tape, h.below.output, h.below.size, h.below.block⟩, Nat.le_trans h.drawn (Nat.le_add_right _ _)⟩
theorem Ext.setCell {a w : World} (h : Ext a w) {p : Addr} (hp : a.heap.size ≤ p.block) (u : Value) : Ext a (w.setCell p u) := ⟨h.below.setCell hp u, h.drawn⟩
theorem Ext.cell {w w' : World} (h : Ext w w') {p : Addr} (hp : p.block < w.heap.size) : w'.cell? p = w.cell? p := h.below.cell hp
theorem Ext.frozen {w w' : World} (h : Ext w w') {p : Addr} (hp : p.block < w.heap.size) : w'.frozen? p = w.frozen? p := h.below.frozen hp

theorem Ext.grow {w w' : World} (h : Ext w w') : ∃ q os, w' = Sort.grow (w.drewN q) os := by
  obtain ⟨⟨h1, h2, h3, h4, h5⟩, h6⟩ := h
  refine ⟨w'.drawn - w.drawn, w'.heap.extract w.heap.size w'.heap.size, ?_⟩
  have hh : w'.heap = w.heap ++ w'.heap.extract w.heap.size w'.heap.size := by
    apply Array.ext_getElem?
    intro k
    rw [Array.getElem?_append]
    by_cases hk : k < w.heap.size
    · rw [if_pos hk, h5 k hk]
    · rw [if_neg hk, Array.getElem?_extract]
      by_cases hk' : k < w'.heap.size
      · rw [if_pos (by omega)]; congr 1; omega
      · rw [if_neg (by omega)]; exact Array.getElem?_eq_none (by omega)
  cases w' with
  | mk heap' tape' drawn' os' output' =>
    cases w with
    | mk heap tape drawn os output =>
      simp only at h1 h2 h3 h4 h6 hh
      subst h1 h2 h3
      simp only [Sort.grow, World.drewN, World.mk.injEq, true_and, and_true]
      exact ⟨hh, by omega⟩

/-- w' is w with some draws. -/
def Quiet (w w' : World) : Prop := ∃ q, w' = w.drewN q
theorem Quiet.refl (w : World) : Quiet w w := ⟨0, rfl⟩
theorem Quiet.trans {a b c : World} (h : Quiet a b) (k : Quiet b c) : Quiet a c := by
  obtain ⟨q, rfl⟩ := h; obtain ⟨r, rfl⟩ := k; exact ⟨q + r, by simp [World.drewN, Nat.add_assoc]⟩
theorem Quiet.drewN {a b : World} (h : Quiet a b) (q : Nat) : Quiet a (b.drewN q) := h.trans ⟨q, rfl⟩
theorem Quiet.drew {a b : World} (h : Quiet a b) : Quiet a b.drew := h.trans ⟨1, rfl⟩
theorem Quiet.ext {a b : World} (h : Quiet a b) : Ext a b := by obtain ⟨q, rfl⟩ := h; exact (Ext.refl _).drewN q
/-- A cell that is there lies in a block that is there. -/
theorem block_lt {w : World} {p : Addr} {v : Value} (h : w.cell? p = some v) : p.block < w.heap.size := by
  unfold World.cell? at h
  by_cases hb : p.block < w.heap.size
  · exact hb
  · rw [Array.getElem?_eq_none (by omega)] at h; simp at h

/-- The slice '.slice a l.length c' of 32-bit limbs holds the limbs l. -/
structure Limbs (w : World) (a : Option Addr) (c : Nat) (l : List Nat) : Prop where
  le : l.length ≤ c
  cap : c ≤ 9223372036854775807
  short : l.length ≤ 1099511627776
  nul : a = none → c = 0
  small : Small l
  cell : ∀ i, i < l.length → ∃ b o, a = some ⟨b, o, none⟩ ∧ w.cell? ⟨b, o + i, none⟩ = some (.int .u32 (limb l i : Nat))

/-- The slice '.slice a k c' of 32-bit limbs has the value n. -/
def Raw (w : World) (a : Option Addr) (k c n : Nat) : Prop := ∃ l, l.length = k ∧ val l = n ∧ Limbs w a c l

/-- Block b holds exactly the cells vs. -/
def Arr (w : World) (b : Nat) (T : TypeId) (vs : List Value) : Prop := w.heap[b]? = some (.cells vs.toArray T (0, 0))

theorem Arr.lt {w : World} {b : Nat} {T : TypeId} {vs : List Value} (h : Arr w b T vs) : b < w.heap.size := (Array.getElem?_eq_some_iff.1 h).1
theorem Arr.cell {w : World} {b : Nat} {T : TypeId} {vs : List Value} (h : Arr w b T vs) (i : Nat) : w.cell? ⟨b, i, none⟩ = vs[i]? := by
  simp [World.cell?, show w.heap[b]? = _ from h]
theorem Arr.frozen {w : World} {b : Nat} {T : TypeId} {vs : List Value} (h : Arr w b T vs) (i : Nat) : w.frozen? ⟨b, i, none⟩ = false := by
  simp [World.frozen?, show w.heap[b]? = _ from h]
theorem Arr.ext {w w' : World} {b : Nat} {T : TypeId} {vs : List Value} (h : Arr w b T vs) (e : Ext w w') : Arr w' b T vs := by
  unfold Arr; rw [e.below.block b h.lt]; exact h
theorem Arr.below {B : Nat} {w w' : World} {b : Nat} {T : TypeId} {vs : List Value} (h : Arr w b T vs) (e : Below B w w') (hb : b < B) : Arr w' b T vs := by
  unfold Arr; rw [e.block b hb]; exact h
theorem Arr.set {w : World} {b : Nat} {T : TypeId} {vs : List Value} (h : Arr w b T vs) (i : Nat) (v : Value) : Arr (w.setCell ⟨b, i, none⟩ v) b T (vs.set i v) := by
  unfold Arr World.setCell
  simp [Array.getElem?_modify, show w.heap[b]? = _ from h]
theorem Arr.other {w : World} {b : Nat} {T : TypeId} {vs : List Value} (h : Arr w b T vs) (p : Addr) (v : Value) (hp : p.block ≠ b) : Arr (w.setCell p v) b T vs := by
  unfold Arr; rw [Below.heap_setCell _ _ _ _ (by omega)]; exact h
theorem Arr.alloc (w : World) (T : TypeId) (vs : List Value) : Arr (w.alloc (.cells vs.toArray T)) w.heap.size T vs := by
  unfold Arr World.alloc; simp

/-- A cell and its mark, behind a call. -/
theorem cell_ext {W w1 : World} (hx : Ext W w1) {p : Addr} {v : Value} (h : W.cell? p = some v) : w1.cell? p = some v := by rw [hx.cell (block_lt h)]; exact h
theorem froz_ext {W w1 : World} (hx : Ext W w1) {p : Addr} {v : Value} (h : W.cell? p = some v) (hf : W.frozen? p = false) : w1.frozen? p = false := by rw [hx.frozen (block_lt h)]; exact hf

/-- A block of two cells, behind a call. -/
theorem box2 {W w1 : World} {b : Nat} {T : TypeId} {v0 v1 : Value} (h : Arr W b T [v0, v1]) (hx : Ext W w1) :
    w1.cell? ⟨b, 0, none⟩ = some v0 ∧ w1.cell? ⟨b, 1, none⟩ = some v1 ∧ w1.frozen? ⟨b, 0, none⟩ = false ∧ w1.frozen? ⟨b, 1, none⟩ = false :=
  ⟨(h.ext hx).cell 0, (h.ext hx).cell 1, (h.ext hx).frozen 0, (h.ext hx).frozen 1⟩
theorem box3 {W w1 : World} {b : Nat} {T : TypeId} {v0 v1 v2 : Value} (h : Arr W b T [v0, v1, v2]) (hx : Ext W w1) :
    w1.cell? ⟨b, 0, none⟩ = some v0 ∧ w1.cell? ⟨b, 1, none⟩ = some v1 ∧ w1.cell? ⟨b, 2, none⟩ = some v2 ∧ w1.frozen? ⟨b, 0, none⟩ = false ∧ w1.frozen? ⟨b, 1, none⟩ = false ∧ w1.frozen? ⟨b, 2, none⟩ = false :=
  ⟨(h.ext hx).cell 0, (h.ext hx).cell 1, (h.ext hx).cell 2, (h.ext hx).frozen 0, (h.ext hx).frozen 1, (h.ext hx).frozen 2⟩

/-- Where a value that a call returns may lie: in new blocks. -/
def Fr (b : Nat) (a : Option Addr) : Prop := ∀ x, a = some x → b ≤ x.block

theorem Fr.none (b : Nat) : Fr b Option.none := fun _ h => by cases h
theorem Fr.some {b b' o : Nat} {s} (h : b ≤ b') : Fr b (Option.some ⟨b', o, s⟩) := fun _ e => by cases e; exact h
theorem Fr.mono {b b' : Nat} {a : Option Addr} (h : Fr b a) (hb : b' ≤ b) : Fr b' a := fun x e => Nat.le_trans hb (h x e)

theorem Limbs.ext {w w' : World} {a : Option Addr} {c : Nat} {l : List Nat} (h : Limbs w a c l) (e : Ext w w') : Limbs w' a c l :=
  ⟨h.le, h.cap, h.short, h.nul, h.small, fun i hi => by
    obtain ⟨b, o, ha, hc⟩ := h.cell i hi
    exact ⟨b, o, ha, by rw [e.cell (block_lt hc)]; exact hc⟩⟩

theorem Limbs.below {w w' : World} {B : Nat} {a : Option Addr} {c : Nat} {l : List Nat} (h : Limbs w a c l) (e : Below B w w') (hb : ∀ x, a = some x → x.block < B) : Limbs w' a c l :=
  ⟨h.le, h.cap, h.short, h.nul, h.small, fun i hi => by
    obtain ⟨b, o, ha, hc⟩ := h.cell i hi
    exact ⟨b, o, ha, by rw [e.cell (p := ⟨b, o + i, none⟩) (show b < B from hb ⟨b, o, none⟩ ha)]; exact hc⟩⟩

theorem Limbs.setCell {w : World} {a : Option Addr} {c : Nat} {l : List Nat} (h : Limbs w a c l) (p : Addr) (v : Value) (hp : ∀ x, a = some x → x.block ≠ p.block) : Limbs (w.setCell p v) a c l :=
  ⟨h.le, h.cap, h.short, h.nul, h.small, fun i hi => by
    obtain ⟨b, o, ha, hc⟩ := h.cell i hi
    refine ⟨b, o, ha, ?_⟩
    rw [World.cell?_setCell_other _ _ _ _ (by intro e; exact hp _ ha (by rw [e]))]; exact hc⟩

theorem Limbs.take {w : World} {a : Option Addr} {c : Nat} {l : List Nat} (h : Limbs w a c l) (k : Nat) (hk : k ≤ l.length) : Limbs w a c (l.take k) :=
  ⟨by rw [List.length_take]; have := h.le; omega, h.cap, by rw [List.length_take]; have := h.short; omega, h.nul, h.small.take k, fun i hi => by
    rw [List.length_take] at hi
    obtain ⟨b, o, ha, hc⟩ := h.cell i (by omega)
    exact ⟨b, o, ha, by rw [limb_take (by omega)]; exact hc⟩⟩

theorem Limbs.nil (w : World) : Limbs w none 0 [] := ⟨Nat.zero_le _, by omega, Nat.zero_le _, fun _ => rfl, Small.nil, fun _ h => by cases h⟩

/-- The address is there where there is a limb. -/
theorem Limbs.at {w : World} {a : Option Addr} {c : Nat} {l : List Nat} (h : Limbs w a c l) (h0 : 0 < l.length) : ∃ b o, a = some ⟨b, o, none⟩ := by
  obtain ⟨b, o, ha, _⟩ := h.cell 0 h0; exact ⟨b, o, ha⟩
theorem Limbs.cellAt {w : World} {b o c : Nat} {l : List Nat} (h : Limbs w (some ⟨b, o, none⟩) c l) (i : Nat) (hi : i < l.length) : w.cell? ⟨b, o + i, none⟩ = some (.int .u32 (limb l i : Nat)) := by
  obtain ⟨b', o', e, hc⟩ := h.cell i hi
  cases e; exact hc

theorem Raw.ext {w w' : World} {a : Option Addr} {k c n : Nat} (h : Raw w a k c n) (e : Ext w w') : Raw w' a k c n := by
  obtain ⟨l, h1, h2, h3⟩ := h; exact ⟨l, h1, h2, h3.ext e⟩
theorem Raw.setCell {w : World} {a : Option Addr} {k c n : Nat} (h : Raw w a k c n) (p : Addr) (v : Value) (hp : ∀ x, a = some x → x.block ≠ p.block) : Raw (w.setCell p v) a k c n := by
  obtain ⟨l, h1, h2, h3⟩ := h; exact ⟨l, h1, h2, h3.setCell p v hp⟩
/-- A value behind an object that does not lie in it. -/
theorem Fr.ne {b b' : Nat} {a : Option Addr} (h : Fr b a) (hb : b' < b) : ∀ x, a = Option.some x → x.block ≠ b' := fun x e => by have := h x e; omega
theorem Raw.nil (w : World) : Raw w none 0 0 0 := ⟨[], rfl, rfl, Limbs.nil _⟩
theorem Raw.len_le {w : World} {a : Option Addr} {k c n : Nat} (h : Raw w a k c n) : len n ≤ k := by
  obtain ⟨l, h1, h2, h3⟩ := h; rw [← h1, ← h2]; exact len_val_le h3.small
theorem Raw.le {w : World} {a : Option Addr} {k c n : Nat} (h : Raw w a k c n) : k ≤ c ∧ k ≤ 1099511627776 ∧ c ≤ 9223372036854775807 := by
  obtain ⟨l, h1, h2, h3⟩ := h; exact ⟨h1 ▸ h3.le, h1 ▸ h3.short, h3.cap⟩
theorem Raw.cut {w : World} {a : Option Addr} {k c n : Nat} (h : Raw w a k c n) : Raw w a (len n) c n := by
  obtain ⟨l, h1, h2, h3⟩ := h
  have hl := len_val_le h3.small
  rw [h2] at hl
  exact ⟨l.take (len n), by rw [List.length_take]; omega, by rw [val_take_of_le h3.small hl (by rw [h2]; exact Nat.le_refl _), h2], h3.take _ hl⟩

theorem madeCells_one (z : Value) (n : Nat) : madeCells #[z] n = (List.replicate n z).toArray := by
  unfold madeCells
  apply Array.ext
  · simp
  · intro i h1 h2; simp [Nat.mod_one]

/-- 'make([]T, n)', each element of one cell: a new block of n zeros. -/
theorem wpList_make_one {P : Program} (w : World) {ops : Array Oper} {rest : List Oper} {o : Oper} {a : Act} {Q : Exit → Act → World → Prop}
    (hg : o.guard = none) (l c : Operand) (t : TypeId) (hop : o.op = Op.makeSlice t l c)
    (e : TypeId) (z : Value) (bytes : Nat) (h1 : P.underlying t = some (.slice e)) (h2 : (P.info? e).map (fun i => (i.zero, i.size, i.bytes)) = some (some z, 1, bytes)) (h3 : z.cells = #[z])
    (L C : Int) (n : Nat) (hl : a.eval l = .int .i64 L) (hc : a.eval c = .int .i64 C) (hL : L = (n : Int)) (hC : C = (n : Int)) (b2 : bytes * n ≤ 281474976710656) (b3 : n ≤ 9223372036854775807)
    (hK : ∀ w', Hid (Arr w' w.heap.size e (List.replicate n z)) → Ext w w' → Hid (w'.heap.size = w.heap.size + 1) → wpList P ops Q rest (a.put o.dst (.slice (some ⟨w.heap.size, 0, none⟩) n n)) w') :
    wpList P ops Q (o :: rest) a w := by
  refine wpList_plain hg fun K hK' => ?_
  obtain ⟨i, h2, h4, h5, h6⟩ := info_parts h2
  have hrun := run_make (P := P) w t e i z h1 h2 h4 .i64 .i64 n n (by omega) (Int.le_refl _) (by rw [h6, ← Int.natCast_mul]; omega) (by omega)
  subst hL
  subst hC
  unfold Oper.wp
  simp only [Int.toNat_natCast, h5, Nat.mul_one, h3, madeCells_one] at hrun
  simp [execOp, hop, hl, hc, hrun, Result.andThen]
  exact hK' _ _ (hK _ (Arr.alloc _ _ _) ((Ext.refl _).alloc _) (show _ = _ by simp))

theorem Ext.setRow {a w : World} (h : Ext a w) {g : Nat} (hg : a.heap.size ≤ g) (cs : Array Value) : Ext a (w.setRow g cs) := ⟨below_setRow h.below hg cs, h.drawn⟩

/-- 'copy(dst, src)' into a block that is known whole. -/
theorem wpList_copy_arr {P : Program} {w : World} {ops : Array Oper} {rest : List Oper} {o : Oper} {a : Act} {Q : Exit → Act → World → Prop} (hgd : o.guard = none) (d s : Operand) (dT sT : TypeId)
    (ho : o.op = .call { callee := .builtin .copy, args := #[d, s], argTypes := #[dT, sT] }) (elem : TypeId) (hu : P.underlying dT = some (.slice elem)) (hsz : (P.info? elem).map (·.size) = some 1)
    (dp sp : Option Addr) (dLen dCap sLen sCap : Nat) (hd : a.eval d = .slice dp dLen dCap) (hs : a.eval s = .slice sp sLen sCap)
    (g off : Nat) (cur : List Value) (t : TypeId) (hg : Arr w g t cur) (cs : List Value) (hn : cs.length = Nat.min sLen dLen)
    (hpos : 0 < cs.length → dp = some ⟨g, off, none⟩ ∧ ∃ ad, sp = some ad ∧ ∀ j v, cs[j]? = some v → w.cell? (ad.add j) = some v)
    (hfit : off + cs.length ≤ cur.length) (h1 : ∀ v ∈ cs, v.oneCell' = true)
    (h : ∀ w', Hid (Arr w' g t (splice cur off cs)) → Hid (∀ a0, Ext a0 w → a0.heap.size ≤ g → Ext a0 w') → Hid (w'.heap.size = w.heap.size) → wpList P ops Q rest (a.put o.dst (goInt cs.length)) w') :
    wpList P ops Q (o :: rest) a w := by
  by_cases h0 : cs.length = 0
  · obtain rfl : cs = [] := List.eq_nil_of_length_eq_zero h0
    refine wpList_copy_nothing hgd d s dT sT ho elem hu hsz dp sp dLen dCap sLen sCap hd hs (by simpa using hn.symm) ?_
    exact h w (show Arr _ _ _ _ by simpa [splice] using hg) (show ∀ a0, _ from fun _ h _ => h) rfl
  · obtain ⟨rfl, ad, rfl, hsrc⟩ := hpos (by omega)
    refine wpList_copy_own hgd d s dT sT ho elem hu hsz g off dLen dCap ad sLen sCap hd hs cur.toArray t hg cs hn hsrc (by simpa using hfit) h1 ?_
    exact h _ (show Arr _ _ _ _ by unfold Arr; simpa [splice] using setRow_heap w g _ _ t _ hg) (show ∀ a0, _ from fun _ h hb => h.setRow hb _) (show _ = _ by simp [World.setRow])

/-- The limbs of a block of the call's own. -/
def u32s (l : List Nat) : List Value := l.map fun n => Value.int .u32 (n : Nat)
theorem u32s_length (l : List Nat) : (u32s l).length = l.length := by simp [u32s]
theorem u32s_set (l : List Nat) (i x : Nat) : (u32s l).set i (.int .u32 (x : Nat)) = u32s (l.set i x) := by simp [u32s, List.map_set]
theorem u32s_replicate (n : Nat) : List.replicate n (Value.int .u32 0) = u32s (List.replicate n 0) := by simp [u32s]
theorem u32s_get (l : List Nat) (i : Nat) (h : i < l.length) : (u32s l)[i]? = some (.int .u32 (limb l i : Nat)) := by simp [u32s, limb, h]

theorem Arr.limbs {w : World} {b : Nat} {T : TypeId} {l : List Nat} (h : Arr w b T (u32s l)) (hs : Small l) (hc : l.length ≤ 1099511627776) : Limbs w (some ⟨b, 0, none⟩) l.length l :=
  ⟨Nat.le_refl _, by omega, hc, (fun e => by cases e), hs, fun i hi => ⟨b, 0, rfl, by rw [Nat.zero_add, h.cell, u32s_get _ _ hi]⟩⟩

theorem or_hi (x y : Nat) (hx : x < 4294967296) (hy : y < 4294967296) : bits BinOp.or IntKind.u64 (x : Int) ((y : Int) * 4294967296) = ((x + 4294967296 * y : Nat) : Int) := by
  have e : ((y : Int) * 4294967296) = ((y * 4294967296 : Nat) : Int) := by omega
  rw [e, u64_or_nat _ _ (by omega) (by omega)]
  have := Nat.shiftLeft_add_eq_or_of_lt (i := 32) (b := x) (by omega) y
  rw [Nat.shiftLeft_eq] at this
  rw [Nat.or_comm, ← this]; congr 1; omega
theorem or_lo (x y : Nat) (hx : x < 4294967296) (hy : y < 4294967296) : bits BinOp.or IntKind.u64 ((x : Int) * 4294967296) (y : Int) = ((y + 4294967296 * x : Nat) : Int) := by
  have e : ((x : Int) * 4294967296) = ((x * 4294967296 : Nat) : Int) := by omega
  rw [e, u64_or_nat _ _ (by omega) (by omega)]
  have := Nat.shiftLeft_add_eq_or_of_lt (i := 32) (b := y) (by omega) x
  rw [Nat.shiftLeft_eq] at this
  rw [← this]; congr 1; omega
theorem or_zero (x : Nat) (hx : x < 18446744073709551616) : bits BinOp.or IntKind.u64 0 (x : Int) = (x : Int) := by
  have := u64_or_nat 0 x (by omega) hx
  simpa using this

theorem ret_slice {a : Option Addr} {k k' c : Nat} (h : k = k') : Ending.returned (.slice a k c) = .returned (.slice a k' c) := by rw [h]
theorem ret_int {k : IntKind} {a b : Int} (h : a = b) : Ending.returned (.int k a) = .returned (.int k b) := by rw [h]

/-- A call returns a new list of limbs with the value n, canonical. -/
def NewNat (n : Nat) (w : World) (e : Ending) (w' : World) : Prop := ∃ a c, e = .returned (.slice a (len n) c) ∧ Raw w' a (len n) c n ∧ Fr w.heap.size a ∧ Ext w w'

/-- -1, 0 or 1. -/
def cmpN (n m : Nat) : Int := if n < m then -1 else if n = m then 0 else 1
theorem cmpN_cases (n m : Nat) : (n < m ∧ cmpN n m = -1) ∨ (n = m ∧ cmpN n m = 0) ∨ (m < n ∧ cmpN n m = 1) := by
  unfold cmpN
  by_cases h : n < m
  · simp [h]
  · by_cases h' : n = m
    · simp [h']
    · simp [h, h']; omega

theorem u32s_one (l : List Nat) : ∀ v ∈ u32s l, v.oneCell' = true := by
  intro v hv; simp only [u32s, List.mem_map] at hv; obtain ⟨n, _, rfl⟩ := hv; rfl
theorem u32s_inj_get (l : List Nat) (j : Nat) (v : Value) (h : (u32s l)[j]? = some v) : j < l.length ∧ v = .int .u32 (limb l j : Nat) := by
  have hj : j < l.length := by
    have := (List.getElem?_eq_some_iff.1 h).1; rwa [u32s_length] at this
  rw [u32s_get _ _ hj] at h; exact ⟨hj, by cases h; rfl⟩

theorem Limbs.src {w : World} {a : Option Addr} {c : Nat} {l : List Nat} (h : Limbs w a c l) (h0 : 0 < l.length) : ∃ ad, a = some ad ∧ ∀ j v, (u32s l)[j]? = some v → w.cell? (ad.add j) = some v := by
  obtain ⟨b, o, ha⟩ := h.at h0
  refine ⟨_, ha, fun j v hv => ?_⟩
  obtain ⟨hj, rfl⟩ := u32s_inj_get l j v hv
  subst ha
  have := h.cellAt j hj
  rw [show (Addr.add ⟨b, o, none⟩ j) = ⟨b, o + j, none⟩ from by unfold Addr.add; split <;> simp_all]; exact this

end Go.Proofs.YtgihpfkjpfanmaaGreat


namespace Go.Proofs.YtgihpfkjpfanmaaGreat
open Go.RowKit

/-- natural.cut: the same slice without its zero limbs at the end. -/
theorem nat_cut (w : World) (a : Option Addr) (k c n : Nat) (h : Raw w a k c n) :
    Calls Tryz.prog 213 #[.slice a k c] w fun e w' => e = .returned (.slice a (len n) c) ∧ w = w' := by
  obtain ⟨l, rfl, rfl, h⟩ := h
  have h1 := h.le
  have h2 := h.cap
  go_enter Tryz.func213, Tryz.ntmps213
  go_wp2
  go_loop [3] (fun i => ∃ k : Nat, k ≤ l.length ∧ val (l.take k) = val l ∧ i = .int .i64 k) (fun i => (intOf i).toNat)
  case atStart => exact ⟨_, Nat.le_refl _, by rw [List.take_length], rfl⟩
  case round =>
    obtain ⟨k, hk, hv, rfl⟩ := hrel
    have HV := Lib.hid hv; clear hv
    by_cases h0 : 0 < k
    · obtain ⟨b, o, rfl⟩ := h.at (by omega)
      have hc := h.cellAt (k - 1) (by omega)
      by_cases hz : limb l (k - 1) = 0
      · have hz' : ((limb l (k - 1) : Nat) : Int) = 0 := by omega
        rw [hz'] at hc
        have HZ := Lib.hid hz; clear hz hz'
        go_wp2
        go_round
        case rel =>
          refine ⟨k - 1, by omega, ?_, by go_num⟩
          have := val_take_succ (l := l) (k := k - 1) (by omega)
          rw [HZ.out, show k - 1 + 1 = k from by omega, HV.out] at this
          rw [this]; simp
        case measure => simp [intOf]; omega
      · have hz' : (((limb l (k - 1) : Nat) : Int) == 0) = false := by rw [beq_eq_false_iff_ne]; omega
        have HZ := Lib.hid hz; clear hz
        go_wp2
        go_ret
        have e : len (val l) = k := by
          rw [← HV.out]
          have := len_val (h.small.take k) (by rw [List.length_take]; omega) (by rw [List.length_take, Nat.min_eq_left hk, limb_take (by omega)]; exact HZ.out)
          rw [this, List.length_take, Nat.min_eq_left hk]
        exact ⟨ret_slice e.symm, rfl⟩
    · go_wp2
      go_ret
      have e : len (val l) = k := by
        rw [← HV.out, show k = 0 from by omega]; rfl
      exact ⟨ret_slice e.symm, rfl⟩

/-- natural.word: the value of at most two limbs. -/
theorem nat_word (w : World) (a : Option Addr) (k c n : Nat) (h : Raw w a k c n) (hk : k ≤ 2) :
    Calls Tryz.prog 214 #[.slice a k c] w fun e w' => e = .returned (.int .u64 (n : Nat)) ∧ w = w' := by
  obtain ⟨l, rfl, rfl, h⟩ := h
  have hs := h.small
  match l, hk, h, hs with
  | [], _, h, _ =>
    go_enter Tryz.func214, Tryz.ntmps214
    go_wp2
    refine wp_loop_rounds 1 ?_; rw [rounds_succ]
    go_wp2
    go_ret
    exact ⟨rfl, rfl⟩
  | [x], _, h, hs =>
    obtain ⟨b, o, rfl⟩ := h.at (by simp)
    have hc := h.cellAt 0 (by simp)
    have hx := hs x (by simp)
    simp [limb] at hc
    go_enter Tryz.func214, Tryz.ntmps214
    go_wp2
    refine wp_loop_rounds 2 ?_; rw [rounds_succ]
    go_wp2
    rw [rounds_succ]
    go_wp2
    go_ret
    exact ⟨ret_int (by simp [val]; exact or_zero x (by omega)), rfl⟩
  | [x, y], _, h, hs =>
    obtain ⟨b, o, rfl⟩ := h.at (by simp)
    have hc := h.cellAt 0 (by simp)
    have hc1 := h.cellAt 1 (by simp)
    have hx := hs x (by simp)
    have hy := hs y (by simp)
    simp [limb] at hc hc1
    go_enter Tryz.func214, Tryz.ntmps214
    go_wp2
    refine wp_loop_rounds 3 ?_; rw [rounds_succ]
    go_wp2
    rw [rounds_succ]
    go_wp2
    rw [rounds_succ]
    go_wp2
    go_ret
    exact ⟨ret_int (by rw [or_zero x (by omega), or_hi x y hx hy]; simp [val]), rfl⟩

/-- natural.Uint64. -/
theorem nat_Uint64_yes (w : World) (a : Option Addr) (k c n : Nat) (h : Raw w a k c n) (hn : n < 18446744073709551616) :
    Calls Tryz.prog 148 #[.slice a k c] w fun e w' => e = .returned (.tuple #[.int .u64 (n : Nat), .bool true]) ∧ w = w' := by
  have h2 := len_le_two.2 hn
  have hc := h.cut
  go_enter Tryz.func148, Tryz.ntmps148
  go_wp2_with (first | (go_at_call 213; refine (nat_cut _ _ _ _ _ h).mono ?_; rintro e w' ⟨rfl, rfl⟩) | (go_at_call 214; refine (nat_word _ _ _ _ _ hc h2).mono ?_; rintro e w' ⟨rfl, rfl⟩))
  go_ret2
  exact ⟨rfl, rfl⟩

theorem nat_Uint64_no (w : World) (a : Option Addr) (k c n : Nat) (h : Raw w a k c n) (hn : 18446744073709551616 ≤ n) :
    Calls Tryz.prog 148 #[.slice a k c] w fun e w' => e = .returned (.tuple #[.int .u64 0, .bool false]) ∧ w = w' := by
  have h2 : 2 < len n := by have := @len_le_two n; omega
  have hc := h.cut
  go_enter Tryz.func148, Tryz.ntmps148
  go_wp2_with (first | (go_at_call 213; refine (nat_cut _ _ _ _ _ h).mono ?_; rintro e w' ⟨rfl, rfl⟩))
  go_ret2
  exact ⟨rfl, rfl⟩

/-- natural.FromUint64. -/
theorem nat_FromUint64 (w : World) (n : Nat) (hn : n < 18446744073709551616) :
    Calls Tryz.prog 211 #[.int .u64 (n : Nat)] w (NewNat n w) := by
  have hr : Raw (w.alloc (Obj.cells #[.int .u32 ((n : Int) % 4294967296), .int .u32 ((n : Int) / 4294967296)] 122)) (some ⟨w.heap.size, 0, none⟩) 2 2 n := by
    have ha := Arr.alloc w 122 (u32s [n % 4294967296, n / 4294967296])
    exact ⟨_, rfl, by simp [val]; omega, ha.limbs (Small.append (l := [_]) (m := [_]) (Small.one (by omega)) (Small.one (by omega))) (by simp)⟩
  go_enter Tryz.func211, Tryz.ntmps211
  go_wp2_with fail
  refine (nat_cut _ _ _ _ _ hr).mono ?_
  rintro e w' ⟨rfl, rfl⟩
  go_wp2
  go_ret
  exact ⟨_, _, rfl, hr.cut, Fr.some (Nat.le_refl _), (Ext.refl _).alloc _⟩

set_option maxHeartbeats 400000 in
/-- natural.Compare. -/
theorem nat_Compare (w : World) (a b : Option Addr) (k k' c c' n m : Nat) (ha : Raw w a k c n) (hb : Raw w b k' c' m) :
    Calls Tryz.prog 206 #[.slice a k c, .slice b k' c'] w fun e w' => e = .returned (.int .i64 (cmpN n m)) ∧ Quiet w w' := by
  have ha' := ha.cut
  have hb' := hb.cut
  have la := ha'.le
  have lb := hb'.le
  by_cases hne : len n = len m
  · obtain ⟨l, hl, hv, hA⟩ := ha'
    obtain ⟨l', hl', hv', hB⟩ := hb'
    have s1 := hA.small
    have s2 := hB.small
    have hne' : (((len n : Nat) : Int) != ((len m : Nat) : Int)) = false := by simp [hne]
    rw [← hne] at hl' lb hne'
    have HL := Lib.hid hl; have HL' := Lib.hid hl'; have HV := Lib.hid hv; have HV' := Lib.hid hv'; have HN := Lib.hid hne
    clear hl hl' hv hv' hne
    go_enter Tryz.func206, Tryz.ntmps206
    go_wp2_with fail
    refine (nat_cut _ _ _ _ _ ha).mono ?_
    rintro e w' ⟨rfl, rfl⟩
    go_wp2_with fail
    refine (nat_cut _ _ _ _ _ hb).mono ?_
    rintro e w' ⟨rfl, rfl⟩
    rw [← HN.out]
    go_wp2
    go_loopw [5] (fun i wr => ∃ j : Nat, j ≤ len n ∧ l.drop j = l'.drop j ∧ i = .int .i64 ((j : Int) - 1) ∧ Quiet w wr) (fun i _ => (intOf i + 1).toNat)
    case atStart => exact ⟨len n, Nat.le_refl _, by rw [List.drop_of_length_le (by rw [HL.out]; exact Nat.le_refl _), List.drop_of_length_le (by rw [HL'.out]; exact Nat.le_refl _)], rfl, Quiet.refl _⟩
    case round =>
      obtain ⟨j, hj, hd, rfl, hq⟩ := hrel
      have HD := Lib.hid hd; clear hd
      by_cases h0 : 0 < j
      · obtain ⟨i, rfl⟩ : ∃ i, j = i + 1 := ⟨j - 1, by omega⟩
        rw [show (((i + 1 : Nat) : Int) - 1) = (i : Int) from by omega]
        obtain ⟨p, o, rfl⟩ := hA.at (by rw [HL.out]; omega)
        obtain ⟨p', o', rfl⟩ := hB.at (by rw [HL'.out]; omega)
        have hc := (hA.ext hq.ext).cellAt i (by rw [HL.out]; omega)
        have hc' := (hB.ext hq.ext).cellAt i (by rw [HL'.out]; omega)
        have hx := limb_lt s1 i
        have hy := limb_lt s2 i
        have g1 : (i : Int) < (len n : Int) := by omega
        have g2 : (0 : Int) ≤ (i : Int) := by omega
        by_cases c1 : limb l i < limb l' i
        · have d1 : decide (((limb l i : Nat) : Int) < ((limb l' i : Nat) : Int)) = true := by simp; omega
          go_wp2
          go_quiet (fail)
          go_wp2
          go_ret
          refine ⟨ret_int ?_, hq.drewN _⟩
          have := val_lt_of s1 (k := i) (by rw [HL.out]; omega) (by rw [HL'.out]; omega) (by rw [HD.out]) c1
          rw [HV.out, HV'.out] at this
          unfold cmpN; rw [if_pos this]
        · by_cases c2 : limb l' i < limb l i
          · have d1 : decide (((limb l i : Nat) : Int) < ((limb l' i : Nat) : Int)) = false := by simp; omega
            have d2 : decide (((limb l' i : Nat) : Int) < ((limb l i : Nat) : Int)) = true := by simp; omega
            go_wp2
            go_quiet (fail)
            go_wp2
            go_quiet (fail)
            go_wp2
            go_ret
            refine ⟨ret_int ?_, (hq.drewN _).drewN _⟩
            have := val_lt_of s2 (k := i) (by rw [HL'.out]; omega) (by rw [HL.out]; omega) (by rw [HD.out]) c2
            rw [HV.out, HV'.out] at this
            unfold cmpN; rw [if_neg (by omega), if_neg (by omega)]
          · have d1 : decide (((limb l i : Nat) : Int) < ((limb l' i : Nat) : Int)) = false := by simp; omega
            have d2 : decide (((limb l' i : Nat) : Int) < ((limb l i : Nat) : Int)) = false := by simp; omega
            go_wp2
            go_quiet (fail)
            go_wp2
            go_quiet (fail)
            go_wp2
            go_roundw
            case rel =>
              refine ⟨i, by omega, ?_, rfl, hq.drewN _⟩
              have e1 : limb l i = limb l' i := by omega
              have e2 : i < l.length := by rw [HL.out]; omega
              have e3 : i < l'.length := by rw [HL'.out]; omega
              rw [List.drop_eq_getElem_cons e2, List.drop_eq_getElem_cons e3, HD.out]
              simp only [limb, List.getElem?_eq_getElem e2, List.getElem?_eq_getElem e3, Option.getD_some] at e1
              rw [e1]
            case measure => simp [intOf]
      · obtain rfl : j = 0 := by omega
        go_wp2
        go_ret
        refine ⟨ret_int ?_, hq⟩
        have : n = m := by rw [← HV.out, ← HV'.out]; have := HD.out; simp at this; rw [this]
        unfold cmpN; rw [if_neg (by omega), if_pos this]
  · have hne' : (((len n : Nat) : Int) != ((len m : Nat) : Int)) = true := by simp; omega
    by_cases hlt : len n < len m
    · go_enter Tryz.func206, Tryz.ntmps206
      go_wp2_with fail
      refine (nat_cut _ _ _ _ _ ha).mono ?_
      rintro e w' ⟨rfl, rfl⟩
      go_wp2_with fail
      refine (nat_cut _ _ _ _ _ hb).mono ?_
      rintro e w' ⟨rfl, rfl⟩
      go_wp2
      go_ret
      refine ⟨ret_int ?_, Quiet.refl _⟩
      have : n < m := by
        apply Nat.lt_of_not_le; intro h; have := len_mono h; omega
      unfold cmpN; rw [if_pos this]
    · go_enter Tryz.func206, Tryz.ntmps206
      go_wp2_with fail
      refine (nat_cut _ _ _ _ _ ha).mono ?_
      rintro e w' ⟨rfl, rfl⟩
      go_wp2_with fail
      refine (nat_cut _ _ _ _ _ hb).mono ?_
      rintro e w' ⟨rfl, rfl⟩
      go_wp2
      go_ret
      refine ⟨ret_int ?_, Quiet.refl _⟩
      have : m < n := by
        apply Nat.lt_of_not_le; intro h; have := len_mono h; omega
      unfold cmpN; rw [if_neg (by omega), if_neg (by omega)]
end Go.Proofs.YtgihpfkjpfanmaaGreat


namespace Go.Proofs.YtgihpfkjpfanmaaGreat
open Go.RowKit

theorem Tryz.info_u32 : (Tryz.prog.info? 122).map (fun i => (i.zero, i.size, i.bytes)) = some (some (.int .u32 0), 1, 4) := by kernel_rfl

theorem Tryz.size_u32 : (Tryz.prog.info? 122).map (·.size) = some 1 := by kernel_rfl

set_option maxRecDepth 100000 in
/-- natural.Trim. -/
theorem nat_Trim (w : World) (a : Option Addr) (k c n : Nat) (h : Raw w a k c n) :
    Calls Tryz.prog 212 #[.slice a k c] w (NewNat n w) := by
  have hc := h.cut
  have hl := hc.le
  obtain ⟨l, hl1, hl2, hL⟩ := hc
  have H1 := Lib.hid hl1; have H2 := Lib.hid hl2; clear hl1 hl2
  go_enter Tryz.func212, Tryz.ntmps212
  go_wp2_with (first
    | (go_at_call 213; refine (nat_cut _ _ _ _ _ h).mono ?_; rintro e w' ⟨rfl, rfl⟩)
    | (at_make; refine wpList_make_one _ rfl _ _ 51 rfl 122 (.int .u32 0) 4 Tryz.underlying51 Tryz.info_u32 rfl _ _ (len n) rfl rfl rfl rfl (by omega) (by omega) ?_; intro w1 hw1 hx1 hz1)
    | (refine wpList_copy_arr (o := ⟨some 11, _, _, _, _, _⟩) rfl (.tmp 9) (.tmp 10) 51 51 rfl 122 Tryz.underlying51 Tryz.size_u32 _ _ _ _ _ _ rfl rfl w.heap.size 0 _ 122 hw1.out (u32s l) ?c1 ?c2 ?c3 (u32s_one l) ?_; rotate_right; intro w2 hw2 hx2 hz2))
  case c1 => rw [u32s_length, H1.out]; exact (Nat.min_self _).symm
  case c2 => intro h0; rw [u32s_length] at h0; exact (hL.ext hx1).src h0
  case c3 => rw [u32s_length, H1.out]; simp
  go_ret
  have e : splice (List.replicate (len n) (Value.int .u32 0)) 0 (u32s l) = u32s l := by
    unfold splice; rw [u32s_length, H1.out]; simp
  have hA : Arr w2 w.heap.size 122 (u32s l) := by have := hw2.out; rwa [e] at this
  have hR : Raw w2 (some ⟨w.heap.size, 0, none⟩) (len n) (len n) n := by
    have := hA.limbs hL.small (by rw [H1.out]; omega)
    rw [H1.out] at this
    exact ⟨l, H1.out, H2.out, this⟩
  exact ⟨_, _, rfl, hR, Fr.some (Nat.le_refl _), hx2.out w hx1 (Nat.le_refl _)⟩

/-- One limb of a sum: what is stored, and the carry. -/
theorem add_step {L M r : List Nat} {i cy : Nat} (h1 : i < L.length) (hr : r.length = i) (hv : val r + 4294967296 ^ i * cy = val (L.take i) + val (M.take i)) (hM : i < M.length ∨ M.length ≤ i) :
    val (r ++ [(cy + limb L i + limb M i) % 4294967296]) + 4294967296 ^ (i + 1) * ((cy + limb L i + limb M i) / 4294967296) = val (L.take (i + 1)) + val (M.take (i + 1)) := by
  rw [val_append, val_single, hr, val_take_succ h1]
  have e : val (M.take (i + 1)) = val (M.take i) + 4294967296 ^ i * limb M i := by
    rcases hM with h | h
    · exact val_take_succ h
    · rw [List.take_of_length_le (by omega), List.take_of_length_le (by omega)]; simp [limb, List.getElem?_eq_none h]
  rw [e, Nat.pow_succ, Nat.mul_assoc]
  generalize 4294967296 ^ i = p at *
  have e2 : p * ((cy + limb L i + limb M i) % 4294967296) + p * (4294967296 * ((cy + limb L i + limb M i) / 4294967296)) = p * cy + p * limb L i + p * limb M i := by
    rw [← Nat.mul_add, Nat.mod_add_div, Nat.mul_add, Nat.mul_add]
  omega

set_option maxHeartbeats 1000000 in
set_option maxRecDepth 100000 in
/-- natural.Add where the first number is not shorter. -/
theorem nat_Add_ge (w : World) (a b : Option Addr) (k k' c c' n m : Nat) (ha : Raw w a k c n) (hb : Raw w b k' c' m) (hle : len m ≤ len n) (hsz : len n < 1000000000) :
    Calls Tryz.prog 228 #[.slice a k c, .slice b k' c'] w (NewNat (n + m) w) := by
  have ha' := ha.cut
  have hb' := hb.cut
  have la := ha'.le
  have lb := hb'.le
  obtain ⟨l, hl, hv, hA⟩ := ha'
  obtain ⟨l', hl', hv', hB⟩ := hb'
  have s1 := hA.small
  have s2 := hB.small
  have HL := Lib.hid hl; have HL' := Lib.hid hl'; have HV := Lib.hid hv; have HV' := Lib.hid hv'
  clear hl hl' hv hv'
  have hlt : ¬ len n < len m := by omega
  go_enter Tryz.func228, Tryz.ntmps228
  go_wp2_with fail
  refine (nat_cut _ _ _ _ _ ha).mono ?_
  rintro e w' ⟨rfl, rfl⟩
  go_wp2_with fail
  refine (nat_cut _ _ _ _ _ hb).mono ?_
  rintro e w' ⟨rfl, rfl⟩
  go_wp2_with (at_make; refine wpList_make_one _ rfl _ _ 51 rfl 122 (.int .u32 0) 4 Tryz.underlying51 Tryz.info_u32 rfl _ _ (len n + 1) rfl rfl (by go_num) (by go_num) (by omega) (by omega) ?_; intro w1 hw1 hx1 hz1)
  go_loopw [6, 26] (fun cy i wr => ∃ (j q : Nat) (r : List Nat), j ≤ len n ∧ Hid (r.length = j) ∧ Small r ∧ q ≤ 1 ∧ Hid (val r + 4294967296 ^ j * q = val (l.take j) + val (l'.take j)) ∧ Hid (Arr wr w.heap.size 122 (u32s (r ++ List.replicate (len n + 1 - j) 0))) ∧ Ext w wr ∧ cy = .int .u64 q ∧ i = .int .i64 j) (fun _ i _ => len n - (intOf i).toNat)
  case atStart => exact ⟨0, 0, [], Nat.zero_le _, rfl, Small.nil, Nat.zero_le _, rfl, by have := hw1.out; rw [u32s_replicate] at this; exact this, hx1, rfl, rfl⟩
  case round =>
    obtain ⟨j, q, r, hj, hr, hs, hq, hval, harr, hext, rfl, rfl⟩ := hrel
    by_cases h0 : j < len n
    · obtain ⟨p, o, rfl⟩ := hA.at (by rw [HL.out]; omega)
      have hc := (hA.ext hext).cellAt j (by rw [HL.out]; omega)
      have hx := limb_lt s1 j
      have hst : wr.cell? ⟨w.heap.size, j, none⟩ = some (.int .u32 0) := by
        rw [harr.out.cell, u32s_get _ _ (by simp [hr.out]; omega)]
        simp [limb, hr.out, show 0 < len n + 1 - j from by omega]
      have hfz := harr.out.frozen j
      have hnew : ∀ x : Nat, x < 4294967296 → Arr (wr.setCell ⟨w.heap.size, j, none⟩ (.int .u32 (x : Nat))) w.heap.size 122 (u32s ((r ++ [x]) ++ List.replicate (len n + 1 - (j + 1)) 0)) := by
        intro x _
        have := harr.out.set j (.int .u32 (x : Nat))
        rw [u32s_set, List.set_append_right _ _ (by rw [hr.out]; exact Nat.le_refl _), hr.out, Nat.sub_self, show len n + 1 - j = (len n + 1 - (j + 1)) + 1 from by omega, List.replicate_succ, List.set_cons_zero] at this
        rw [List.append_assoc]; exact this
      have HN := Lib.hid hnew; clear hnew
      by_cases h1 : j < len m
      · obtain ⟨p', o', rfl⟩ := hB.at (by rw [HL'.out]; omega)
        have hc' := (hB.ext hext).cellAt j (by rw [HL'.out]; omega)
        have hy := limb_lt s2 j
        go_wp2
        go_roundw
        case rel =>
          have hadd := add_step (L := l) (M := l') (cy := q) (i := j) (by rw [HL.out]; omega) hr.out hval.out (by rw [HL'.out]; omega)
          refine ⟨j + 1, (q + limb l j + limb l' j) / 4294967296, r ++ [(q + limb l j + limb l' j) % 4294967296], by omega, (show _ = _ by simp [hr.out]), hs.append (Small.one (Nat.mod_lt _ (by decide))), by omega, hadd, HN.out _ (Nat.mod_lt _ (by decide)), hext.setCell (Nat.le_refl _) _, ?_, ?_⟩ <;> go_num
        case measure => simp [intOf]; omega
      · have e1 : limb l' j = 0 := by unfold limb; rw [List.getElem?_eq_none (by rw [HL'.out]; omega)]; rfl
        have E1 := Lib.hid e1; clear e1
        go_wp2
        go_roundw
        case rel =>
          have hadd := add_step (L := l) (M := l') (cy := q) (i := j) (by rw [HL.out]; omega) hr.out hval.out (by rw [HL'.out]; omega)
          rw [E1.out, Nat.add_zero] at hadd
          refine ⟨j + 1, (q + limb l j) / 4294967296, r ++ [(q + limb l j) % 4294967296], by omega, (show _ = _ by simp [hr.out]), hs.append (Small.one (Nat.mod_lt _ (by decide))), by omega, hadd, HN.out _ (Nat.mod_lt _ (by decide)), hext.setCell (Nat.le_refl _) _, ?_, ?_⟩ <;> go_num
        case measure => simp [intOf]; omega
    · obtain rfl : j = len n := by omega
      have hst : wr.cell? ⟨w.heap.size, len n, none⟩ = some (.int .u32 0) := by
        rw [harr.out.cell, u32s_get _ _ (by simp [hr.out])]
        simp [limb, hr.out]
      have hfz := harr.out.frozen (len n)
      have hraw : Raw (wr.setCell ⟨w.heap.size, len n, none⟩ (.int .u32 (q : Nat))) (some ⟨w.heap.size, 0, none⟩) (len n + 1) (len n + 1) (n + m) := by
        have := harr.out.set (len n) (.int .u32 (q : Nat))
        rw [u32s_set, List.set_append_right _ _ (by rw [hr.out]; exact Nat.le_refl _), hr.out, Nat.sub_self, show len n + 1 - len n = 1 from by omega] at this
        simp only [List.replicate_succ, List.replicate_zero, List.set_cons_zero] at this
        have h2 := this.limbs (hs.append (Small.one (by omega))) (by simp [hr.out]; omega)
        refine ⟨r ++ [q], by simp [hr.out], ?_, by simpa [hr.out] using h2⟩
        rw [val_append, val_single, hr.out, hval.out, List.take_of_length_le (by rw [HL.out]; exact Nat.le_refl _), List.take_of_length_le (by rw [HL'.out]; omega), HV.out, HV'.out]
      have HR := Lib.hid hraw; clear hraw
      go_wp2_with (go_at_call 213; refine (nat_cut _ _ _ _ _ HR.out).mono ?_; rintro e w' ⟨rfl, rfl⟩)
      go_ret
      exact ⟨_, _, rfl, HR.out.cut, Fr.some (Nat.le_refl _), hext.setCell (Nat.le_refl _) _⟩

set_option maxHeartbeats 1000000 in
set_option maxRecDepth 100000 in
/-- natural.Add where the first number is shorter. -/
theorem nat_Add_lt (w : World) (a b : Option Addr) (k k' c c' n m : Nat) (ha : Raw w a k c n) (hb : Raw w b k' c' m) (hle : len m < len n) (hsz : len n < 1000000000) :
    Calls Tryz.prog 228 #[.slice b k' c', .slice a k c] w (NewNat (n + m) w) := by
  have ha' := ha.cut
  have hb' := hb.cut
  have la := ha'.le
  have lb := hb'.le
  obtain ⟨l, hl, hv, hA⟩ := ha'
  obtain ⟨l', hl', hv', hB⟩ := hb'
  have s1 := hA.small
  have s2 := hB.small
  have HL := Lib.hid hl; have HL' := Lib.hid hl'; have HV := Lib.hid hv; have HV' := Lib.hid hv'
  clear hl hl' hv hv'
  have hlt : ¬ len n < len m := by omega
  go_enter Tryz.func228, Tryz.ntmps228
  go_wp2_with fail
  refine (nat_cut _ _ _ _ _ hb).mono ?_
  rintro e w' ⟨rfl, rfl⟩
  go_wp2_with fail
  refine (nat_cut _ _ _ _ _ ha).mono ?_
  rintro e w' ⟨rfl, rfl⟩
  go_wp2_with (at_make; refine wpList_make_one _ rfl _ _ 51 rfl 122 (.int .u32 0) 4 Tryz.underlying51 Tryz.info_u32 rfl _ _ (len n + 1) rfl rfl (by go_num) (by go_num) (by omega) (by omega) ?_; intro w1 hw1 hx1 hz1)
  go_loopw [6, 26] (fun cy i wr => ∃ (j q : Nat) (r : List Nat), j ≤ len n ∧ Hid (r.length = j) ∧ Small r ∧ q ≤ 1 ∧ Hid (val r + 4294967296 ^ j * q = val (l.take j) + val (l'.take j)) ∧ Hid (Arr wr w.heap.size 122 (u32s (r ++ List.replicate (len n + 1 - j) 0))) ∧ Ext w wr ∧ cy = .int .u64 q ∧ i = .int .i64 j) (fun _ i _ => len n - (intOf i).toNat)
  case atStart => exact ⟨0, 0, [], Nat.zero_le _, rfl, Small.nil, Nat.zero_le _, rfl, by have := hw1.out; rw [u32s_replicate] at this; exact this, hx1, rfl, rfl⟩
  case round =>
    obtain ⟨j, q, r, hj, hr, hs, hq, hval, harr, hext, rfl, rfl⟩ := hrel
    by_cases h0 : j < len n
    · obtain ⟨p, o, rfl⟩ := hA.at (by rw [HL.out]; omega)
      have hc := (hA.ext hext).cellAt j (by rw [HL.out]; omega)
      have hx := limb_lt s1 j
      have hst : wr.cell? ⟨w.heap.size, j, none⟩ = some (.int .u32 0) := by
        rw [harr.out.cell, u32s_get _ _ (by simp [hr.out]; omega)]
        simp [limb, hr.out, show 0 < len n + 1 - j from by omega]
      have hfz := harr.out.frozen j
      have hnew : ∀ x : Nat, x < 4294967296 → Arr (wr.setCell ⟨w.heap.size, j, none⟩ (.int .u32 (x : Nat))) w.heap.size 122 (u32s ((r ++ [x]) ++ List.replicate (len n + 1 - (j + 1)) 0)) := by
        intro x _
        have := harr.out.set j (.int .u32 (x : Nat))
        rw [u32s_set, List.set_append_right _ _ (by rw [hr.out]; exact Nat.le_refl _), hr.out, Nat.sub_self, show len n + 1 - j = (len n + 1 - (j + 1)) + 1 from by omega, List.replicate_succ, List.set_cons_zero] at this
        rw [List.append_assoc]; exact this
      have HN := Lib.hid hnew; clear hnew
      by_cases h1 : j < len m
      · obtain ⟨p', o', rfl⟩ := hB.at (by rw [HL'.out]; omega)
        have hc' := (hB.ext hext).cellAt j (by rw [HL'.out]; omega)
        have hy := limb_lt s2 j
        go_wp2
        go_roundw
        case rel =>
          have hadd := add_step (L := l) (M := l') (cy := q) (i := j) (by rw [HL.out]; omega) hr.out hval.out (by rw [HL'.out]; omega)
          refine ⟨j + 1, (q + limb l j + limb l' j) / 4294967296, r ++ [(q + limb l j + limb l' j) % 4294967296], by omega, (show _ = _ by simp [hr.out]), hs.append (Small.one (Nat.mod_lt _ (by decide))), by omega, hadd, HN.out _ (Nat.mod_lt _ (by decide)), hext.setCell (Nat.le_refl _) _, ?_, ?_⟩ <;> go_num
        case measure => simp [intOf]; omega
      · have e1 : limb l' j = 0 := by unfold limb; rw [List.getElem?_eq_none (by rw [HL'.out]; omega)]; rfl
        have E1 := Lib.hid e1; clear e1
        go_wp2
        go_roundw
        case rel =>
          have hadd := add_step (L := l) (M := l') (cy := q) (i := j) (by rw [HL.out]; omega) hr.out hval.out (by rw [HL'.out]; omega)
          rw [E1.out, Nat.add_zero] at hadd
          refine ⟨j + 1, (q + limb l j) / 4294967296, r ++ [(q + limb l j) % 4294967296], by omega, (show _ = _ by simp [hr.out]), hs.append (Small.one (Nat.mod_lt _ (by decide))), by omega, hadd, HN.out _ (Nat.mod_lt _ (by decide)), hext.setCell (Nat.le_refl _) _, ?_, ?_⟩ <;> go_num
        case measure => simp [intOf]; omega
    · obtain rfl : j = len n := by omega
      have hst : wr.cell? ⟨w.heap.size, len n, none⟩ = some (.int .u32 0) := by
        rw [harr.out.cell, u32s_get _ _ (by simp [hr.out])]
        simp [limb, hr.out]
      have hfz := harr.out.frozen (len n)
      have hraw : Raw (wr.setCell ⟨w.heap.size, len n, none⟩ (.int .u32 (q : Nat))) (some ⟨w.heap.size, 0, none⟩) (len n + 1) (len n + 1) (n + m) := by
        have := harr.out.set (len n) (.int .u32 (q : Nat))
        rw [u32s_set, List.set_append_right _ _ (by rw [hr.out]; exact Nat.le_refl _), hr.out, Nat.sub_self, show len n + 1 - len n = 1 from by omega] at this
        simp only [List.replicate_succ, List.replicate_zero, List.set_cons_zero] at this
        have h2 := this.limbs (hs.append (Small.one (by omega))) (by simp [hr.out]; omega)
        refine ⟨r ++ [q], by simp [hr.out], ?_, by simpa [hr.out] using h2⟩
        rw [val_append, val_single, hr.out, hval.out, List.take_of_length_le (by rw [HL.out]; exact Nat.le_refl _), List.take_of_length_le (by rw [HL'.out]; omega), HV.out, HV'.out]
      have HR := Lib.hid hraw; clear hraw
      go_wp2_with (go_at_call 213; refine (nat_cut _ _ _ _ _ HR.out).mono ?_; rintro e w' ⟨rfl, rfl⟩)
      go_ret
      exact ⟨_, _, rfl, HR.out.cut, Fr.some (Nat.le_refl _), hext.setCell (Nat.le_refl _) _⟩

/-- natural.Add. -/
theorem nat_Add (w : World) (a b : Option Addr) (k k' c c' n m : Nat) (ha : Raw w a k c n) (hb : Raw w b k' c' m) (h1 : len n < 1000000000) (h2 : len m < 1000000000) :
    Calls Tryz.prog 228 #[.slice a k c, .slice b k' c'] w (NewNat (n + m) w) := by
  by_cases h : len m ≤ len n
  · exact nat_Add_ge w a b k k' c c' n m ha hb h h1
  · rw [Nat.add_comm]; exact nat_Add_lt w b a k' k c' c m n hb ha (by omega) h2
end Go.Proofs.YtgihpfkjpfanmaaGreat


namespace Go.Proofs.YtgihpfkjpfanmaaGreat
open Go.RowKit

set_option maxHeartbeats 400000 in
/-- natural.Sub where the second number is greater. -/
theorem nat_Sub_no (w : World) (a b : Option Addr) (k k' c c' n m : Nat) (ha : Raw w a k c n) (hb : Raw w b k' c' m) (hlt : n < m) :
    Calls Tryz.prog 229 #[.slice a k c, .slice b k' c'] w fun e w' => e = .returned (.tuple #[.slice none 0 0, .bool false]) ∧ Quiet w w' := by
  have ha' := ha.cut
  have hb' := hb.cut
  have hcmp : cmpN n m = -1 := by unfold cmpN; rw [if_pos hlt]
  have HC := Lib.hid hcmp; clear hcmp
  go_enter Tryz.func229, Tryz.ntmps229
  go_wp2_with fail
  refine (nat_cut _ _ _ _ _ ha).mono ?_
  rintro e w' ⟨rfl, rfl⟩
  go_wp2_with fail
  refine (nat_cut _ _ _ _ _ hb).mono ?_
  rintro e w' ⟨rfl, rfl⟩
  go_wp2_with fail
  refine (nat_Compare _ _ _ _ _ _ _ _ _ ha' hb').mono ?_
  rintro e w' ⟨rfl, hq⟩
  rw [HC.out]
  go_wp2
  go_ret2
  exact ⟨rfl, hq⟩

theorem sub_word (x y q : Nat) (hx : x < 4294967296) (hy : y < 4294967296) (hq : q ≤ 1) : ∃ z q' : Nat, z + y + q = x + 4294967296 * q' ∧ z < 4294967296 ∧ q' ≤ 1 ∧
    IntKind.u64.wrap (IntKind.u64.wrap ((x : Int) - (q : Int)) - (y : Int)) % 4294967296 = (z : Int) ∧ IntKind.u64.wrap (IntKind.u64.wrap ((x : Int) - (q : Int)) - (y : Int)) / 9223372036854775808 = (q' : Int) := by
  rw [IntKind.wrap_u64, IntKind.wrap_u64]
  by_cases h : q + y ≤ x
  · exact ⟨x - y - q, 0, by omega, by omega, by omega, by omega, by omega⟩
  · exact ⟨x + 4294967296 - y - q, 1, by omega, by omega, by omega, by omega, by omega⟩
theorem sub_word0 (x q : Nat) (hx : x < 4294967296) (hq : q ≤ 1) : ∃ z q' : Nat, z + 0 + q = x + 4294967296 * q' ∧ z < 4294967296 ∧ q' ≤ 1 ∧
    IntKind.u64.wrap ((x : Int) - (q : Int)) % 4294967296 = (z : Int) ∧ IntKind.u64.wrap ((x : Int) - (q : Int)) / 9223372036854775808 = (q' : Int) := by
  rw [IntKind.wrap_u64]
  by_cases h : q ≤ x
  · exact ⟨x - q, 0, by omega, by omega, by omega, by omega, by omega⟩
  · exact ⟨x + 4294967296 - q, 1, by omega, by omega, by omega, by omega, by omega⟩

/-- A call returns a new list of limbs and true. -/
def NewNatOk (n : Nat) (w : World) (e : Ending) (w' : World) : Prop := ∃ a c, e = .returned (.tuple #[.slice a (len n) c, .bool true]) ∧ Raw w' a (len n) c n ∧ Fr w.heap.size a ∧ Ext w w'

set_option maxHeartbeats 1000000 in
set_option maxRecDepth 100000 in
/-- natural.Sub. -/
theorem nat_Sub (w : World) (a b : Option Addr) (k k' c c' n m : Nat) (ha : Raw w a k c n) (hb : Raw w b k' c' m) (hle : m ≤ n) :
    Calls Tryz.prog 229 #[.slice a k c, .slice b k' c'] w (NewNatOk (n - m) w) := by
  have ha' := ha.cut
  have hb' := hb.cut
  have la := ha'.le
  have lb := hb'.le
  have hlm := len_mono hle
  have hcmp : 0 ≤ cmpN n m := by unfold cmpN; rw [if_neg (by omega)]; split <;> decide
  go_enter Tryz.func229, Tryz.ntmps229
  go_wp2_with fail
  refine (nat_cut _ _ _ _ _ ha).mono ?_
  rintro e w' ⟨rfl, rfl⟩
  go_wp2_with fail
  refine (nat_cut _ _ _ _ _ hb).mono ?_
  rintro e w' ⟨rfl, rfl⟩
  go_wp2_with fail
  refine (nat_Compare _ _ _ _ _ _ _ _ _ ha' hb').mono ?_
  rintro e w0 ⟨rfl, hq0⟩
  obtain ⟨l, hl, hv, hA⟩ := ha'.ext hq0.ext
  obtain ⟨l', hl', hv', hB⟩ := hb'.ext hq0.ext
  have s1 := hA.small
  have s2 := hB.small
  have HL := Lib.hid hl; have HL' := Lib.hid hl'; have HV := Lib.hid hv; have HV' := Lib.hid hv'
  clear hl hl' hv hv'
  go_wp2_with (at_make; refine wpList_make_one _ rfl _ _ 51 rfl 122 (.int .u32 0) 4 Tryz.underlying51 Tryz.info_u32 rfl _ _ (len n) rfl rfl (by go_num) (by go_num) (by omega) (by omega) ?_; intro w1 hw1 hx1 hz1)
  go_loopw [7, 24] (fun cy i wr => ∃ (j q : Nat) (r : List Nat), j ≤ len n ∧ Hid (r.length = j) ∧ Small r ∧ q ≤ 1 ∧ Hid (val r + val (l'.take j) = val (l.take j) + 4294967296 ^ j * q) ∧ Hid (Arr wr w0.heap.size 122 (u32s (r ++ List.replicate (len n - j) 0))) ∧ Ext w0 wr ∧ cy = .int .u64 q ∧ i = .int .i64 j) (fun _ i _ => len n - (intOf i).toNat)
  case atStart => exact ⟨0, 0, [], Nat.zero_le _, rfl, Small.nil, Nat.zero_le _, rfl, by have := hw1.out; rw [u32s_replicate] at this; exact this, hx1, rfl, rfl⟩
  case round =>
    obtain ⟨j, q, r, hj, hr, hs, hq, hval, harr, hext, rfl, rfl⟩ := hrel
    by_cases h0 : j < len n
    · obtain ⟨p, o, rfl⟩ := hA.at (by rw [HL.out]; omega)
      have hc := (hA.ext hext).cellAt j (by rw [HL.out]; omega)
      have hx := limb_lt s1 j
      have hst : wr.cell? ⟨w0.heap.size, j, none⟩ = some (.int .u32 0) := by
        rw [harr.out.cell, u32s_get _ _ (by simp [hr.out]; omega)]
        simp [limb, hr.out, show 0 < len n - j from by omega]
      have hfz := harr.out.frozen j
      have hnew : ∀ x : Nat, x < 4294967296 → Arr (wr.setCell ⟨w0.heap.size, j, none⟩ (.int .u32 (x : Nat))) w0.heap.size 122 (u32s ((r ++ [x]) ++ List.replicate (len n - (j + 1)) 0)) := by
        intro x _
        have := harr.out.set j (.int .u32 (x : Nat))
        rw [u32s_set, List.set_append_right _ _ (by rw [hr.out]; exact Nat.le_refl _), hr.out, Nat.sub_self, show len n - j = (len n - (j + 1)) + 1 from by omega, List.replicate_succ, List.set_cons_zero] at this
        rw [List.append_assoc]; exact this
      have HN := Lib.hid hnew; clear hnew
      by_cases h1 : j < len m
      · obtain ⟨p', o', rfl⟩ := hB.at (by rw [HL'.out]; omega)
        have hc' := (hB.ext hext).cellAt j (by rw [HL'.out]; omega)
        have hy := limb_lt s2 j
        obtain ⟨z, q', e0, hz, hq', e1, e2⟩ := sub_word (limb l j) (limb l' j) q hx hy hq
        have E0 := Lib.hid e0; have E1 := Lib.hid e1; have E2 := Lib.hid e2; clear e0 e1 e2
        go_wp2
        rw [E1.out, E2.out]
        go_roundw
        case rel =>
          have hsub := sub_step (L := l) (M := l') (q := q) (i := j) (by rw [HL.out]; omega) hr.out hval.out (by rw [HL'.out]; omega) rfl rfl E0.out
          exact ⟨j + 1, q', r ++ [z], by omega, (show _ = _ by simp [hr.out]), hs.append (Small.one hz), hq', hsub, HN.out _ hz, hext.setCell (Nat.le_refl _) _, rfl, by go_num⟩
        case measure => simp [intOf]; omega
      · have e1 : limb l' j = 0 := limb_ge (by rw [HL'.out]; omega)
        have EY := Lib.hid e1; clear e1
        obtain ⟨z, q', e0, hz, hq', e1, e2⟩ := sub_word0 (limb l j) q hx hq
        have E0 := Lib.hid e0; have E1 := Lib.hid e1; have E2 := Lib.hid e2; clear e0 e1 e2
        go_wp2
        rw [E1.out, E2.out]
        go_roundw
        case rel =>
          have hsub := sub_step (L := l) (M := l') (q := q) (i := j) (by rw [HL.out]; omega) hr.out hval.out (by rw [HL'.out]; omega) rfl EY.out E0.out
          exact ⟨j + 1, q', r ++ [z], by omega, (show _ = _ by simp [hr.out]), hs.append (Small.one hz), hq', hsub, HN.out _ hz, hext.setCell (Nat.le_refl _) _, rfl, by go_num⟩
        case measure => simp [intOf]; omega
    · obtain rfl : j = len n := by omega
      have hraw : Raw wr (some ⟨w0.heap.size, 0, none⟩) (len n) (len n) (n - m) := by
        have hv1 := hval.out
        have t1 : l.take (len n) = l := List.take_of_length_le (by rw [HL.out]; exact Nat.le_refl _)
        have t2 : l'.take (len n) = l' := List.take_of_length_le (by rw [HL'.out]; omega)
        rw [t1, t2, HV.out, HV'.out] at hv1
        have hv2 := val_lt hs
        rw [hr.out] at hv2
        have hq0 : q = 0 := by
          apply Nat.eq_zero_of_not_pos; intro h
          have : 4294967296 ^ len n * 1 ≤ 4294967296 ^ len n * q := Nat.mul_le_mul_left _ h
          omega
        subst hq0
        have h2 := harr.out
        rw [Nat.sub_self, List.replicate_zero, List.append_nil] at h2
        have h3 := h2.limbs hs (by rw [hr.out]; omega)
        rw [hr.out] at h3
        exact ⟨r, hr.out, by omega, h3⟩
      have HR := Lib.hid hraw; clear hraw
      go_wp2_with (go_at_call 213; refine (nat_cut _ _ _ _ _ HR.out).mono ?_; rintro e w' ⟨rfl, rfl⟩)
      go_ret2
      exact ⟨_, _, rfl, HR.out.cut, Fr.some hq0.ext.size, hq0.ext.trans hext⟩

/-- One limb of a product. -/
theorem mul_step {P' P L' : List Nat} {i j q x : Nat} (hj : j < L'.length) (hi : i + j < P'.length) (hv : val P' + 4294967296 ^ (i + j) * q = val P + 4294967296 ^ i * (x * val (L'.take j))) :
    val (P'.set (i + j) ((q + (x * limb L' j + limb P' (i + j))) % 4294967296)) + 4294967296 ^ (i + (j + 1)) * ((q + (x * limb L' j + limb P' (i + j))) / 4294967296) = val P + 4294967296 ^ i * (x * val (L'.take (j + 1))) := by
  have h1 := val_set hi ((q + (x * limb L' j + limb P' (i + j))) % 4294967296)
  rw [val_take_succ hj, show i + (j + 1) = i + j + 1 from by omega, Nat.pow_succ, Nat.mul_assoc, Nat.mul_add x, Nat.mul_add (4294967296 ^ i)]
  have h2 : 4294967296 ^ i * (x * (4294967296 ^ j * limb L' j)) = 4294967296 ^ (i + j) * (x * limb L' j) := by
    rw [Nat.pow_add, Nat.mul_left_comm x, Nat.mul_assoc]
  rw [h2]
  generalize 4294967296 ^ (i + j) = p at *
  have h3 : p * ((q + (x * limb L' j + limb P' (i + j))) % 4294967296) + p * (4294967296 * ((q + (x * limb L' j + limb P' (i + j))) / 4294967296)) = p * q + (p * (x * limb L' j) + p * limb P' (i + j)) := by
    rw [← Nat.mul_add, Nat.mod_add_div, Nat.mul_add, Nat.mul_add]
  omega

set_option maxHeartbeats 400000 in
/-- natural.Mul where a number is 0. -/
theorem nat_Mul_zero (w : World) (a b : Option Addr) (k k' c c' n m : Nat) (ha : Raw w a k c n) (hb : Raw w b k' c' m) (h0 : n = 0 ∨ m = 0) :
    Calls Tryz.prog 157 #[.slice a k c, .slice b k' c'] w (NewNat (n * m) w) := by
  by_cases hn : len n = 0
  · have hn' : (((len n : Nat) : Int) == 0) = true := by simp [hn]
    go_enter Tryz.func157, Tryz.ntmps157
    go_wp2_with fail
    refine (nat_cut _ _ _ _ _ ha).mono ?_
    rintro e w' ⟨rfl, rfl⟩
    go_wp2_with fail
    refine (nat_cut _ _ _ _ _ hb).mono ?_
    rintro e w' ⟨rfl, rfl⟩
    go_wp2
    go_ret
    rw [len_eq_zero.1 hn, Nat.zero_mul]
    exact ⟨none, 0, rfl, Raw.nil _, Fr.none _, Ext.refl _⟩
  · have hm : len m = 0 := by
      rcases h0 with h | h
      · exact absurd (len_eq_zero.2 h) hn
      · exact len_eq_zero.2 h
    have hn' : (((len n : Nat) : Int) == 0) = false := by rw [beq_eq_false_iff_ne]; omega
    have hm' : (((len m : Nat) : Int) == 0) = true := by simp [hm]
    go_enter Tryz.func157, Tryz.ntmps157
    go_wp2_with fail
    refine (nat_cut _ _ _ _ _ ha).mono ?_
    rintro e w' ⟨rfl, rfl⟩
    go_wp2_with fail
    refine (nat_cut _ _ _ _ _ hb).mono ?_
    rintro e w' ⟨rfl, rfl⟩
    go_wp2
    go_ret
    rw [len_eq_zero.1 hm, Nat.mul_zero]
    exact ⟨none, 0, rfl, Raw.nil _, Fr.none _, Ext.refl _⟩

set_option maxHeartbeats 2000000 in
set_option maxRecDepth 100000 in
/-- natural.Mul where no number is 0. -/
theorem nat_Mul_pos (w : World) (a b : Option Addr) (k k' c c' n m : Nat) (ha : Raw w a k c n) (hb : Raw w b k' c' m) (hn : 0 < n) (hm : 0 < m) (h1 : len n < 1000000000) (h2 : len m < 1000000000) :
    Calls Tryz.prog 157 #[.slice a k c, .slice b k' c'] w (NewNat (n * m) w) := by
  have ha' := ha.cut
  have hb' := hb.cut
  have la := ha'.le
  have lb := hb'.le
  have pn := len_pos.2 hn
  have pm := len_pos.2 hm
  have hn' : (((len n : Nat) : Int) == 0) = false := by rw [beq_eq_false_iff_ne]; omega
  have hm' : (((len m : Nat) : Int) == 0) = false := by rw [beq_eq_false_iff_ne]; omega
  obtain ⟨l, hl, hv, hA⟩ := ha'
  obtain ⟨l', hl', hv', hB⟩ := hb'
  obtain ⟨pa, oa, rfl⟩ := hA.at (by rw [hl]; omega)
  obtain ⟨pb, ob, rfl⟩ := hB.at (by rw [hl']; omega)
  have s1 := hA.small
  have s2 := hB.small
  have HL := Lib.hid hl; have HL' := Lib.hid hl'; have HV := Lib.hid hv; have HV' := Lib.hid hv'
  clear hl hl' hv hv'
  go_enter Tryz.func157, Tryz.ntmps157
  go_wp2_with fail
  refine (nat_cut _ _ _ _ _ ha).mono ?_
  rintro e w' ⟨rfl, rfl⟩
  go_wp2_with fail
  refine (nat_cut _ _ _ _ _ hb).mono ?_
  rintro e w' ⟨rfl, rfl⟩
  go_wp2_with (at_make; refine wpList_make_one _ rfl _ _ 51 rfl 122 (.int .u32 0) 4 Tryz.underlying51 Tryz.info_u32 rfl _ _ (len n + len m) rfl rfl (by go_num) (by go_num) (by omega) (by omega) ?_; intro w1 hw1 hx1 hz1)
  go_loopw [31] (fun i wr => ∃ (j : Nat) (P : List Nat), j ≤ len n ∧ Hid (P.length = len n + len m) ∧ Small P ∧ Hid (val P = val (l.take j) * m) ∧ Hid (∀ t, j + len m ≤ t → limb P t = 0) ∧ Hid (Arr wr w.heap.size 122 (u32s P)) ∧ Ext w wr ∧ i = .int .i64 j) (fun i _ => len n - (intOf i).toNat)
  case atStart => exact ⟨0, List.replicate (len n + len m) 0, Nat.zero_le _, (show _ = _ by simp), Small.replicate _, (show _ = _ by simp [val, val_replicate]), (show ∀ t, _ from fun t _ => limb_replicate _ _), by have := hw1.out; rw [u32s_replicate] at this; exact this, hx1, rfl⟩
  case round =>
    obtain ⟨i, P, hi, hP, hs, hval, hz, harr, hext, rfl⟩ := hrel
    by_cases h0 : i < len n
    · have hc := (hA.ext hext).cellAt i (by rw [HL.out]; omega)
      have hx := limb_lt s1 i
      by_cases hx0 : limb l i = 0
      · have hx0' : ((limb l i : Nat) : Int) = 0 := by omega
        rw [hx0'] at hc
        have HX := Lib.hid hx0; clear hx0 hx0'
        go_wp2
        go_roundw
        case rel =>
          refine ⟨i + 1, P, by omega, hP, hs, ?_, (show ∀ t, _ from fun t ht => hz.out t (by omega)), harr, hext, by go_num⟩
          show _ = _
          rw [val_take_succ (by rw [HL.out]; omega), HX.out, hval.out]; simp
        case measure => simp [intOf]; omega
      · have hx0' : (((limb l i : Nat) : Int) == 0) = false := by rw [beq_eq_false_iff_ne]; omega
        have HX := Lib.hid hx0; clear hx0
        go_wp2
        obtain ⟨wo, rfl⟩ : ∃ wo : World, wo = wr := ⟨_, rfl⟩
        go_loopw [8, 40] (fun cy jj wr => ∃ (j q : Nat) (P' : List Nat), j ≤ len m ∧ q < 4294967296 ∧ Hid (P'.length = len n + len m) ∧ Small P' ∧ Hid (val P' + 4294967296 ^ (i + j) * q = val P + 4294967296 ^ i * (limb l i * val (l'.take j))) ∧ Hid (∀ t, i + j ≤ t → limb P' t = limb P t) ∧ Hid (Arr wr w.heap.size 122 (u32s P')) ∧ Ext w wr ∧ cy = .int .u64 q ∧ jj = .int .i64 j) (fun _ jj _ => len m - (intOf jj).toNat)
        case atStart => exact ⟨0, 0, P, Nat.zero_le _, by omega, hP, hs, (show _ = _ by simp [val]), (show ∀ t, _ from fun t _ => rfl), harr, hext, rfl, rfl⟩
        case round =>
          obtain ⟨j, q, P', hj, hq, hP', hs', hval', hz', harr', hext', rfl, rfl⟩ := hrel
          by_cases h3 : j < len m
          · have hc' := (hB.ext hext').cellAt j (by rw [HL'.out]; omega)
            have hcx := (hA.ext hext').cellAt i (by rw [HL.out]; omega)
            have hy := limb_lt s2 j
            have hp := limb_lt hs' (i + j)
            have hst : wr.cell? ⟨w.heap.size, i + j, none⟩ = some (.int .u32 (limb P' (i + j) : Nat)) := by
              rw [harr'.out.cell, u32s_get _ _ (by rw [hP'.out]; omega)]
            have hfz := harr'.out.frozen (i + j)
            have hxy : limb l i * limb l' j ≤ 4294967295 * 4294967295 := Nat.mul_le_mul (by omega) (by omega)
            have hxy' : ((limb l i : Nat) : Int) * ((limb l' j : Nat) : Int) ≤ 18446744065119617025 := by rw [← Int.natCast_mul]; omega
            have hxy0 : 0 ≤ ((limb l i : Nat) : Int) * ((limb l' j : Nat) : Int) := by rw [← Int.natCast_mul]; omega
            have hnew : ∀ (x : Nat) (v : Int), v = (x : Int) → Arr (wr.setCell ⟨w.heap.size, i + j, none⟩ (.int .u32 v)) w.heap.size 122 (u32s (P'.set (i + j) x)) := by
              intro x v hv
              subst hv
              have := harr'.out.set (i + j) (.int .u32 (x : Nat))
              rwa [u32s_set] at this
            have HN := Lib.hid hnew; clear hnew
            go_wp2
            go_roundw
            case rel =>
              have hm := mul_step (x := limb l i) (q := q) (P := P) (by rw [HL'.out]; omega) (by rw [hP'.out]; omega) hval'.out
              refine ⟨j + 1, (q + (limb l i * limb l' j + limb P' (i + j))) / 4294967296, P'.set (i + j) ((q + (limb l i * limb l' j + limb P' (i + j))) % 4294967296), by omega, ?_, (show _ = _ by simp [hP'.out]), hs'.set _ _ (Nat.mod_lt _ (by decide)), hm, (show ∀ t, _ from fun t ht => by rw [limb_set_ne (by omega), hz'.out t (by omega)]), ?_, hext'.setCell (Nat.le_refl _) _, ?_, by go_num⟩
              · clear hm; rw [Nat.div_lt_iff_lt_mul (by decide)]; omega
              · exact HN.out _ _ (by simp)
              · go_num
            case measure => simp [intOf]; omega
          · obtain rfl : j = len m := by omega
            have hst : wr.cell? ⟨w.heap.size, i + len m, none⟩ = some (.int .u32 (limb P' (i + len m) : Nat)) := by
              rw [harr'.out.cell, u32s_get _ _ (by rw [hP'.out]; omega)]
            have hfz := harr'.out.frozen (i + len m)
            have hnew : Arr (wr.setCell ⟨w.heap.size, i + len m, none⟩ (.int .u32 (q : Nat))) w.heap.size 122 (u32s (P'.set (i + len m) q)) := by
              have := harr'.out.set (i + len m) (.int .u32 (q : Nat))
              rwa [u32s_set] at this
            have HN := Lib.hid hnew; clear hnew
            go_wp2
            go_roundw
            case rel =>
              refine ⟨i + 1, P'.set (i + len m) q, by omega, (show _ = _ by simp [hP'.out]), hs'.set _ _ hq, ?_, ?_, HN.out, hext'.setCell (Nat.le_refl _) _, by go_num⟩
              · show _ = _
                have e1 := val_set (l := P') (k := i + len m) (by rw [hP'.out]; omega) q
                rw [hz'.out _ (Nat.le_refl _), hz.out _ (Nat.le_refl _)] at e1
                have e2 := hval'.out
                rw [List.take_of_length_le (by rw [HL'.out]; exact Nat.le_refl _), HV'.out] at e2
                rw [val_take_succ (by rw [HL.out]; omega), Nat.add_mul, ← hval.out, Nat.mul_assoc]
                omega
              · show ∀ t, _
                intro t ht
                rw [limb_set_ne (by omega), hz'.out t (by omega), hz.out t (by omega)]
            case measure => simp [intOf]; omega
    · obtain rfl : i = len n := by omega
      have hraw : Raw wr (some ⟨w.heap.size, 0, none⟩) (len n + len m) (len n + len m) (n * m) := by
        have h3 := harr.out.limbs hs (by rw [hP.out]; omega)
        rw [hP.out] at h3
        refine ⟨P, hP.out, ?_, h3⟩
        rw [hval.out, List.take_of_length_le (by rw [HL.out]; exact Nat.le_refl _), HV.out]
      have HR := Lib.hid hraw; clear hraw
      go_wp2_with (go_at_call 213; refine (nat_cut _ _ _ _ _ HR.out).mono ?_; rintro e w' ⟨rfl, rfl⟩)
      go_ret
      exact ⟨_, _, rfl, HR.out.cut, Fr.some (Nat.le_refl _), hext⟩

/-- natural.Mul. -/
theorem nat_Mul (w : World) (a b : Option Addr) (k k' c c' n m : Nat) (ha : Raw w a k c n) (hb : Raw w b k' c' m) (h1 : len n < 1000000000) (h2 : len m < 1000000000) :
    Calls Tryz.prog 157 #[.slice a k c, .slice b k' c'] w (NewNat (n * m) w) := by
  by_cases h : n = 0 ∨ m = 0
  · exact nat_Mul_zero w a b k k' c c' n m ha hb h
  · exact nat_Mul_pos w a b k k' c c' n m ha hb (by omega) (by omega) h1 h2
end Go.Proofs.YtgihpfkjpfanmaaGreat


namespace Go.Proofs.YtgihpfkjpfanmaaGreat
open Go.RowKit

/-- A call returns two new lists of limbs. -/
def NewNats (q r : Nat) (w : World) (e : Ending) (w' : World) : Prop := ∃ a c a' c', e = .returned (.tuple #[.slice a (len q) c, .slice a' (len r) c']) ∧ Raw w' a (len q) c q ∧ Fr w.heap.size a ∧ Raw w' a' (len r) c' r ∧ Fr w.heap.size a' ∧ Ext w w'
/-- .. and true. -/
def NewNatsOk (q r : Nat) (w : World) (e : Ending) (w' : World) : Prop := ∃ a c a' c', e = .returned (.tuple #[.slice a (len q) c, .slice a' (len r) c', .bool true]) ∧ Raw w' a (len q) c q ∧ Fr w.heap.size a ∧ Raw w' a' (len r) c' r ∧ Fr w.heap.size a' ∧ Ext w w'

set_option maxHeartbeats 1000000 in
set_option maxRecDepth 100000 in
/-- natural.divideByLimb. -/
theorem nat_divideByLimb (w : World) (a : Option Addr) (c n d : Nat) (ha : Raw w a (len n) c n) (h0 : 0 < d) (hd : d < 4294967296) :
    Calls Tryz.prog 232 #[.slice a (len n) c, .int .u32 (d : Nat)] w (NewNats (n / d) (n % d) w) := by
  have la := ha.le
  obtain ⟨l, hl, hv, hA⟩ := ha
  have s1 := hA.small
  have HL := Lib.hid hl; have HV := Lib.hid hv
  clear hl hv
  have d1 : (1 : Int) ≤ (d : Int) := by omega
  have d0 : ((d : Int) == 0) = false := by rw [beq_eq_false_iff_ne]; omega
  go_enter Tryz.func232, Tryz.ntmps232
  go_wp2_with (at_make; refine wpList_make_one _ rfl _ _ 51 rfl 122 (.int .u32 0) 4 Tryz.underlying51 Tryz.info_u32 rfl _ _ (len n) rfl rfl (by go_num) (by go_num) (by omega) (by omega) ?_; intro w1 hw1 hx1 hz1)
  go_loopw [6, 7] (fun rr i wr => ∃ (j r : Nat) (Q : List Nat), j ≤ len n ∧ r < d ∧ Hid (Q.length = len n) ∧ Small Q ∧ Hid (val (Q.drop j) * d + r = val (l.drop j)) ∧ Hid (Arr wr w.heap.size 122 (u32s Q)) ∧ Ext w wr ∧ rr = .int .u64 r ∧ i = .int .i64 ((j : Int) - 1)) (fun _ i _ => (intOf i + 1).toNat)
  case atStart =>
    refine ⟨len n, 0, List.replicate (len n) 0, Nat.le_refl _, h0, (show _ = _ by simp), Small.replicate _, (show _ = _ by rw [List.drop_of_length_le (by simp), List.drop_of_length_le (by rw [HL.out]; exact Nat.le_refl _)]; simp [val]), by have := hw1.out; rw [u32s_replicate] at this; exact this, hx1, rfl, rfl⟩
  case round =>
    obtain ⟨j, r, Q, hj, hr, hQ, hs, hval, harr, hext, rfl, rfl⟩ := hrel
    by_cases hj0 : 0 < j
    · obtain ⟨i, rfl⟩ : ∃ i, j = i + 1 := ⟨j - 1, by omega⟩
      rw [show (((i + 1 : Nat) : Int) - 1) = (i : Int) from by omega]
      obtain ⟨p, o, rfl⟩ := hA.at (by rw [HL.out]; omega)
      have hc := (hA.ext hext).cellAt i (by rw [HL.out]; omega)
      have hx := limb_lt s1 i
      have hst : wr.cell? ⟨w.heap.size, i, none⟩ = some (.int .u32 (limb Q i : Nat)) := by
        rw [harr.out.cell, u32s_get _ _ (by rw [hQ.out]; omega)]
      have hfz := harr.out.frozen i
      have hor := or_lo r (limb l i) (by omega) hx
      obtain ⟨hstep, hlt⟩ := div_step h0 hr hx hval.out
      have HS := Lib.hid hstep; clear hstep
      have hmod := Nat.mod_lt (limb l i + 4294967296 * r) h0
      have e1 : (((limb l i + 4294967296 * r : Nat) : Int) / (d : Int)) % 4294967296 = (((limb l i + 4294967296 * r) / d : Nat) : Int) := by
        rw [← Int.natCast_ediv]
        generalize (limb l i + 4294967296 * r) / d = z at *
        omega
      have e2 : ((limb l i + 4294967296 * r : Nat) : Int) % (d : Int) = (((limb l i + 4294967296 * r) % d : Nat) : Int) := by
        rw [Int.natCast_emod]
      have hnew : ∀ (x : Nat) (v : Int), v = (x : Int) → Arr (wr.setCell ⟨w.heap.size, i, none⟩ (.int .u32 v)) w.heap.size 122 (u32s (Q.set i x)) := by
        intro x v hv
        subst hv
        have := harr.out.set i (.int .u32 (x : Nat))
        rwa [u32s_set] at this
      have HN := Lib.hid hnew; clear hnew
      have E1 := Lib.hid e1; have E2 := Lib.hid e2; clear e1 e2
      go_wp2
      go_roundw
      case rel =>
        refine ⟨i, (limb l i + 4294967296 * r) % d, Q.set i ((limb l i + 4294967296 * r) / d), by omega, hmod, (show _ = _ by simp [hQ.out]), hs.set _ _ hlt, ?_, HN.out _ _ ?_, hext.setCell (Nat.le_refl _) _, ?_, rfl⟩
        · show _ = _
          rw [val_drop_set (by rw [hQ.out]; omega), val_drop_succ (l := l) (by rw [HL.out]; omega)]
          exact HS.out
        · rw [← E1.out]; simp
        · rw [← E2.out]; simp
      case measure => simp [intOf]
    · obtain rfl : j = 0 := by omega
      have hqv : val Q * d + r = n := by have := hval.out; simpa [HV.out] using this
      have e1 : val Q = n / d := by
        rw [← hqv, Nat.mul_comm, Nat.mul_add_div h0, Nat.div_eq_of_lt hr, Nat.add_zero]
      have e2 : r = n % d := by
        rw [← hqv, Nat.mul_comm, Nat.mul_add_mod, Nat.mod_eq_of_lt hr]
      have hraw : Raw wr (some ⟨w.heap.size, 0, none⟩) (len n) (len n) (n / d) := by
        have h3 := harr.out.limbs hs (by rw [hQ.out]; omega)
        rw [hQ.out] at h3
        exact ⟨Q, hQ.out, e1, h3⟩
      have HR := Lib.hid hraw; have E2 := Lib.hid e2; clear hraw hqv e1 e2
      go_wp2_with fail
      refine (nat_cut _ _ _ _ _ HR.out).mono ?_
      rintro e w' ⟨rfl, rfl⟩
      go_wp2_with fail
      refine (nat_FromUint64 _ _ (by omega)).mono ?_
      rintro e w2 ⟨a2, c2, rfl, hr2, hf2, hx2⟩
      go_wp2
      go_ret2
      rw [← E2.out]
      exact ⟨_, _, a2, c2, rfl, HR.out.cut.ext hx2, Fr.some (Nat.le_refl _), hr2, hf2.mono hext.size, hext.trans hx2⟩
end Go.Proofs.YtgihpfkjpfanmaaGreat
