/- Texts of the proof: Knuth, NatS, NatD, Bits, NatL, Nat5, Base3, Lehmer. -/
import Derived.Test.YtgihpfkjpfanmaaGreatChecked
import Derived.Lib.Strings
import Derived.Lib.Slices
import Derived.Lib.Small
import Derived.Lib.Walk
import Derived.Lib.BitFns
import Derived.KernelRfl
import Derived.WalkKit
import Derived.WalkSpells
import Derived.Sort.Grow
import Derived.Lib.Hide
import Derived.Laws.CopyOwn
import Derived.Laws.BitsAllLaws
import Derived.Deep.QuietTactic
import Derived.BigQuiet
import Derived.Test.YtgihpfkjpfanmaaGreatRows
import Derived.WalkLawsBesides
import Derived.Deep.RegionWith
import Derived.Deep.RegionHeld3
import Derived.Deep.DeepCutAuto
import Derived.Deep.CutBlock
import Derived.IntWalk
import Derived.Test.YtgihpfkjpfanmaaGreatQi1
import Derived.Test.YtgihpfkjpfanmaaGreatQi2
import Derived.Test.YtgihpfkjpfanmaaGreatQi3
namespace Go.Proofs.YtgihpfkjpfanmaaGreat

section
variable {U V lx ly p u2 v1 v2 top d rest : Nat}

theorem knuth_mul (hV : V = ly + p * (v2 + 4294967296 * v1)) : d * V = d * ly + p * (d * v2 + 4294967296 * (d * v1)) := by
  rw [hV, Nat.mul_add, Nat.mul_left_comm d p, Nat.mul_add d, Nat.mul_left_comm d 4294967296]

/-- A guess that the next limb refutes is too great. -/
theorem knuth_over (hU : U = lx + p * (u2 + 4294967296 * top)) (hV : V = ly + p * (v2 + 4294967296 * v1)) (hx : lx < p)
    (hd : d * v1 + rest = top) (hgt : rest * 4294967296 + u2 < d * v2) : U < d * V := by
  rw [knuth_mul hV]
  have h3 := Nat.mul_le_mul_left p (show u2 + 4294967296 * top + 1 ≤ d * v2 + 4294967296 * (d * v1) by omega)
  rw [Nat.mul_add p _ 1] at h3
  omega

/-- A guess that the next limb does not refute is too great by at most 1. -/
theorem knuth_near (hU : U = lx + p * (u2 + 4294967296 * top)) (hV : V = ly + p * (v2 + 4294967296 * v1)) (hy : ly < p) (h1 : 1 ≤ v1)
    (hb : d < 4294967296) (hd : d * v1 + rest = top) (hle : d * v2 ≤ rest * 4294967296 + u2) : d * V < U + V := by
  have e := knuth_mul (d := d) hV
  have h3 := Nat.mul_le_mul_left p (show d * v2 + 4294967296 * (d * v1) ≤ u2 + 4294967296 * top by omega)
  have h4 : d * ly ≤ 4294967295 * p := Nat.mul_le_mul (by omega) (by omega)
  have h5 := Nat.mul_le_mul_left p (show 4294967296 * 1 ≤ v2 + 4294967296 * v1 by omega)
  omega

/-- A guess with a great rest is not too great. -/
theorem knuth_break (hU : U = lx + p * (u2 + 4294967296 * top)) (hV : V = ly + p * (v2 + 4294967296 * v1)) (hy : ly < p) (h2 : v2 < 4294967296)
    (hb : d ≤ 4294967296) (hd : d * v1 + rest = top) (hr : 4294967296 ≤ rest) : d * V ≤ U := by
  have e := knuth_mul (d := d) hV
  have h4 : d * ly ≤ 4294967296 * p := Nat.mul_le_mul hb (by omega)
  have h6 : d * v2 ≤ 4294967296 * 4294967295 := Nat.mul_le_mul hb (by omega)
  have h3 := Nat.mul_le_mul_left p (show d * v2 + 4294967296 * (d * v1) + 4294967296 ≤ u2 + 4294967296 * top by omega)
  rw [Nat.mul_add p _ 4294967296] at h3
  omega

/-- The first guess. -/
theorem knuth_first (hU : U = lx + p * (u2 + 4294967296 * top)) (hV : V = ly + p * (v2 + 4294967296 * v1)) (hx : lx < p) (hy : ly < p) (hu2 : u2 < 4294967296) (h2 : v2 < 4294967296)
    (hn : 2147483648 ≤ v1) (hlt : U < V * 4294967296) : U / V ≤ top / v1 ∧ top / v1 ≤ 4294967297 := by
  have hV0 : 0 < V := by
    have := Nat.mul_le_mul_left p (show 1 ≤ v2 + 4294967296 * v1 by omega)
    omega
  constructor
  · rw [Nat.le_div_iff_mul_le (by omega)]
    have h0 := Nat.div_mul_le_self U V
    generalize U / V = Q at *
    have e := knuth_mul (d := Q) hV
    apply Nat.le_of_lt_succ
    apply Nat.lt_of_not_le
    intro hc
    have h3 := Nat.mul_le_mul_left p (show u2 + 4294967296 * top + 1 ≤ Q * v2 + 4294967296 * (Q * v1) by omega)
    rw [Nat.mul_add p _ 1] at h3
    omega
  · apply Nat.le_of_lt_succ
    rw [Nat.div_lt_iff_lt_mul (by omega)]
    apply Nat.lt_of_not_le
    intro hc
    have h3 := Nat.mul_le_mul_left p (show (v2 + 1 + 4294967296 * v1) * 4294967296 ≤ u2 + 4294967296 * top by omega)
    rw [← Nat.mul_assoc, Nat.add_right_comm v2 1, Nat.mul_add p _ 1] at h3
    omega
end

theorem quot_lt {U V d : Nat} (h0 : 0 < V) (h : U < d * V) : U / V + 1 ≤ d := by
  have := (Nat.div_lt_iff_lt_mul h0).2 h; omega
theorem quot_near {U V d : Nat} (h0 : 0 < V) (h : d * V < U + V) : d ≤ U / V + 1 := by
  apply Nat.le_of_lt_succ
  have h1 := Nat.lt_div_mul_add h0 (a := U)
  apply Nat.lt_of_not_le
  intro hc
  have h2 := Nat.mul_le_mul_right V hc
  have h3 : (U / V + 1).succ * V = U / V * V + V + V := by rw [Nat.succ_mul, Nat.add_mul, Nat.one_mul]
  omega
theorem quot_le {U V d : Nat} (h0 : 0 < V) (h : d * V ≤ U) : d ≤ U / V := (Nat.le_div_iff_mul_le h0).2 h

/-- One limb of a difference with a product. -/
theorem mulsub_step {X Y r : List Nat} {i d c z c' : Nat} (h1 : i < X.length) (h2 : i < Y.length) (hr : r.length = i)
    (hv : val r + d * val (Y.take i) = val (X.take i) + 4294967296 ^ i * c) (hz : z + (d * limb Y i + c) = limb X i + 4294967296 * c') :
    val (r ++ [z]) + d * val (Y.take (i + 1)) = val (X.take (i + 1)) + 4294967296 ^ (i + 1) * c' := by
  rw [val_append, val_single, hr, val_take_succ h1, val_take_succ h2, Nat.pow_succ, Nat.mul_assoc, Nat.mul_add d, Nat.mul_left_comm d]
  generalize 4294967296 ^ i = p at *
  have e2 : p * z + (p * (d * limb Y i) + p * c) = p * limb X i + p * (4294967296 * c') := by
    rw [← Nat.mul_add, ← Nat.mul_add, ← Nat.mul_add, hz]
  omega

/-- The end without a borrow. -/
theorem knuth_fit {U V d R : Nat} (h0 : 0 < V) (h : R + d * V = U) (hq : U / V ≤ d) : d = U / V ∧ R = U % V := by
  have h1 : d ≤ U / V := quot_le h0 (by omega)
  have e : d = U / V := Nat.le_antisymm h1 hq
  refine ⟨e, ?_⟩
  have := Nat.div_add_mod' U V
  rw [← e] at this
  omega

/-- The end with a borrow: the divisor is added back. -/
theorem knuth_back {U V d R P T c : Nat} (h0 : 0 < V) (hlt : U < d * V) (hq : d ≤ U / V + 1) (hV : V ≤ P) (hR : R + d * V = U + P * 4294967296) (hT : T + P * c = R + V) (ht : T < P) :
    d = U / V + 1 ∧ c = 4294967296 ∧ T = U % V := by
  have h1 := quot_lt h0 hlt
  have e : d = U / V + 1 := by omega
  have h2 := Nat.div_add_mod' U V
  have h3 := Nat.mod_lt U h0
  have h4 : d * V = U / V * V + V := by rw [e, Nat.add_mul, Nat.one_mul]
  have h5 : T + P * c = U % V + P * 4294967296 := by omega
  have hP : 0 < P := by omega
  have hc : c = 4294967296 := by
    apply Nat.le_antisymm
    · apply Nat.le_of_not_lt; intro h
      have := Nat.mul_le_mul_left P (show 4294967296 + 1 ≤ c from h)
      rw [Nat.mul_add, Nat.mul_one] at this
      omega
    · apply Nat.le_of_not_lt; intro h
      have := Nat.mul_le_mul_left P (show c + 1 ≤ 4294967296 from h)
      rw [Nat.mul_add, Nat.mul_one] at this
      omega
  subst hc
  exact ⟨e, rfl, by omega⟩

/-- The three highest limbs. -/
theorem val_top3 {X : List Nat} {t : Nat} (h : X.length = t + 3) : val X = val (X.take t) + 4294967296 ^ t * (limb X t + 4294967296 * (limb X (t + 1) + 4294967296 * limb X (t + 2))) := by
  rw [val_split X t (by omega), val_drop_succ (show t + 1 < X.length by omega), val_drop_succ (show t + 1 + 1 < X.length by omega), List.drop_of_length_le (by omega)]
  simp [val]
theorem val_top2 {X : List Nat} {t : Nat} (h : X.length = t + 2) : val X = val (X.take t) + 4294967296 ^ t * (limb X t + 4294967296 * limb X (t + 1)) := by
  rw [val_split X t (by omega), val_drop_succ (show t + 1 < X.length by omega), List.drop_of_length_le (by omega)]
  simp [val]
theorem val_take_lt {X : List Nat} (hs : Small X) {t : Nat} (h : t ≤ X.length) : val (X.take t) < 4294967296 ^ t := by
  have := val_lt (hs.take t); rwa [List.length_take, Nat.min_eq_left h] at this

end Go.Proofs.YtgihpfkjpfanmaaGreat


namespace Go.Proofs.YtgihpfkjpfanmaaGreat
open Go.RowKit

/-- A call returns a new block with the limbs of n, all of them. -/
def NewBlock (k n : Nat) (w : World) (e : Ending) (w' : World) : Prop := ∃ r, e = .returned (.slice (some ⟨w.heap.size, 0, none⟩) k k) ∧ r.length = k ∧ val r = n ∧ Small r ∧ Arr w' w.heap.size 122 (u32s r) ∧ Ext w w'

theorem or_shift (q x s : Nat) (hq : q < 2 ^ s) (hx : x < 4294967296) (hs : s < 32) : bits BinOp.or IntKind.u64 (q : Int) (IntKind.u64.wrap ((x : Int) * 2 ^ s)) = ((q + x * 2 ^ s : Nat) : Int) ∧ q + x * 2 ^ s < 4294967296 * 2 ^ s ∧ 4294967296 * 2 ^ s ≤ 9223372036854775808 := by
  have h1 : 2 ^ s ≤ 2 ^ 31 := Nat.pow_le_pow_right (by decide) (by omega)
  have h2 : (x + 1) * 2 ^ s ≤ 4294967296 * 2 ^ s := Nat.mul_le_mul_right _ hx
  rw [Nat.add_mul, Nat.one_mul] at h2
  have h3 : 4294967296 * 2 ^ s ≤ 4294967296 * 2 ^ 31 := Nat.mul_le_mul_left _ h1
  have e : ((x : Int) * 2 ^ s) = ((x * 2 ^ s : Nat) : Int) := by push_cast; rfl
  refine ⟨?_, by omega, by omega⟩
  rw [e, IntKind.wrap_u64]
  have e2 : ((x * 2 ^ s : Nat) : Int) % 18446744073709551616 = ((x * 2 ^ s : Nat) : Int) := by
    generalize x * 2 ^ s = z at *
    omega
  rw [e2, u64_or_nat _ _ (by omega) (by omega)]
  have := Nat.shiftLeft_add_eq_or_of_lt hq x
  rw [Nat.shiftLeft_eq] at this
  rw [Nat.or_comm, ← this, Nat.add_comm]

/-- One limb of a number that is shifted to the left. -/
theorem shl_step {l r : List Nat} {j q s : Nat} (hj : j < l.length) (hr : r.length = j) (hv : val r + 4294967296 ^ j * q = val (l.take j) * 2 ^ s) :
    val (r ++ [(q + limb l j * 2 ^ s) % 4294967296]) + 4294967296 ^ (j + 1) * ((q + limb l j * 2 ^ s) / 4294967296) = val (l.take (j + 1)) * 2 ^ s := by
  rw [val_append, val_single, hr, val_take_succ hj, Nat.pow_succ, Nat.mul_assoc, Nat.add_mul, Nat.mul_assoc]
  generalize 4294967296 ^ j = p at *
  have e2 : p * ((q + limb l j * 2 ^ s) % 4294967296) + p * (4294967296 * ((q + limb l j * 2 ^ s) / 4294967296)) = p * q + p * (limb l j * 2 ^ s) := by
    rw [← Nat.mul_add, Nat.mod_add_div, Nat.mul_add]
  omega

set_option maxHeartbeats 1000000 in
set_option maxRecDepth 100000 in
theorem nat_shifted (w : World) (a : Option Addr) (k c n s : Nat) (ha : Raw w a k c n) (h1 : k < 1000000000) (hs : s < 32) :
    Calls Tryz.prog 237 #[.slice a k c, .int .i64 (s : Nat)] w (NewBlock (k + 1) (n * 2 ^ s) w) := by
  obtain ⟨l, hl, hv, hA⟩ := ha
  have s1 := hA.small
  have HL := Lib.hid hl; have HV := Lib.hid hv
  clear hl hv
  go_enter Tryz.func237, Tryz.ntmps237
  go_wp2_with (at_make; refine wpList_make_one _ rfl _ _ 51 rfl 122 (.int .u32 0) 4 Tryz.underlying51 Tryz.info_u32 rfl _ _ (k + 1) rfl rfl (by go_num) (by go_num) (by omega) (by omega) ?_; intro w1 hw1 hx1 hz1)
  go_loopw [6, 15] (fun cy i wr => ∃ (j q : Nat) (r : List Nat), j ≤ k ∧ Hid (r.length = j) ∧ Small r ∧ q < 2 ^ s ∧ Hid (val r + 4294967296 ^ j * q = val (l.take j) * 2 ^ s) ∧ Hid (Arr wr w.heap.size 122 (u32s (r ++ List.replicate (k + 1 - j) 0))) ∧ Ext w wr ∧ cy = .int .u64 q ∧ i = .int .i64 j) (fun _ i _ => k - (intOf i).toNat)
  case atStart => exact ⟨0, 0, [], Nat.zero_le _, rfl, Small.nil, Nat.two_pow_pos _, (show _ = _ by simp [val]), by have := hw1.out; rw [u32s_replicate] at this; exact this, hx1, rfl, rfl⟩
  case round =>
    obtain ⟨j, q, r, hj, hr, hsm, hq, hval, harr, hext, rfl, rfl⟩ := hrel
    by_cases h0 : j < k
    · obtain ⟨p, o, rfl⟩ := hA.at (by rw [HL.out]; omega)
      have hc := (hA.ext hext).cellAt j (by rw [HL.out]; omega)
      have hx := limb_lt s1 j
      have hst : wr.cell? ⟨w.heap.size, j, none⟩ = some (.int .u32 0) := by
        rw [harr.out.cell, u32s_get _ _ (by simp [hr.out]; omega)]
        simp [limb, hr.out, show 0 < k + 1 - j from by omega]
      have hfz := harr.out.frozen j
      have hnew : ∀ (x : Nat) (v : Int), v = (x : Int) → Arr (wr.setCell ⟨w.heap.size, j, none⟩ (.int .u32 v)) w.heap.size 122 (u32s ((r ++ [x]) ++ List.replicate (k + 1 - (j + 1)) 0)) := by
        intro x v hv
        subst hv
        have := harr.out.set j (.int .u32 (x : Nat))
        rw [u32s_set, List.set_append_right _ _ (by rw [hr.out]; exact Nat.le_refl _), hr.out, Nat.sub_self, show k + 1 - j = (k + 1 - (j + 1)) + 1 from by omega, List.replicate_succ, List.set_cons_zero] at this
        rw [List.append_assoc]; exact this
      have HN := Lib.hid hnew; clear hnew
      obtain ⟨e1, e2, e3⟩ := or_shift q (limb l j) s hq hx hs
      have E1 := Lib.hid e1; clear e1
      go_wp2
      rw [E1.out]
      refine ⟨⟨j + 1, (q + limb l j * 2 ^ s) / 4294967296, r ++ [(q + limb l j * 2 ^ s) % 4294967296], by omega, (show _ = _ by simp [hr.out]), hsm.append (Small.one (Nat.mod_lt _ (by decide))), ?_, shl_step (by rw [HL.out]; omega) hr.out hval.out, HN.out _ _ ?_, hext.setCell (Nat.le_refl _) _, ?_, by go_num⟩, ?_⟩
      · rw [Nat.div_lt_iff_lt_mul (by decide), Nat.mul_comm (2 ^ s)]; exact e2
      · rw [Int.natCast_emod]; rfl
      · rw [Int.natCast_ediv]; rfl
      · simp [intOf]; omega
    · obtain rfl : j = k := by omega
      have hst : wr.cell? ⟨w.heap.size, j, none⟩ = some (.int .u32 0) := by
        rw [harr.out.cell, u32s_get _ _ (by simp [hr.out])]
        simp [limb, hr.out]
      have hfz := harr.out.frozen j
      have h2s : 2 ^ s ≤ 2 ^ 31 := Nat.pow_le_pow_right (by decide) (by omega)
      have hqq : q < 2147483648 := by omega
      have hnew := harr.out.set j (.int .u32 (q : Nat))
      rw [u32s_set, List.set_append_right _ _ (by rw [hr.out]; exact Nat.le_refl _), hr.out, Nat.sub_self, show j + 1 - j = 1 from by omega] at hnew
      simp only [List.replicate_succ, List.replicate_zero, List.set_cons_zero] at hnew
      have HN := Lib.hid hnew; clear hnew
      clear h2s
      go_wp2
      go_ret
      refine ⟨r ++ [q], rfl, by simp [hr.out], ?_, hsm.append (Small.one (by omega)), HN.out, hext.setCell (Nat.le_refl _) _⟩
      rw [val_append, val_single, hr.out, hval.out, List.take_of_length_le (by rw [HL.out]; exact Nat.le_refl _), HV.out]

theorem val_drop_two (l : List Nat) (j : Nat) : ∃ D, val (l.drop j) = limb l j + 4294967296 * limb l (j + 1) + 18446744073709551616 * D := by
  by_cases h : j < l.length
  · rw [val_drop_succ h]
    by_cases h' : j + 1 < l.length
    · rw [val_drop_succ h']; exact ⟨val (l.drop (j + 1 + 1)), by omega⟩
    · rw [List.drop_of_length_le (by omega), limb_ge (i := j + 1) (by omega)]; exact ⟨0, by simp [val]⟩
  · rw [List.drop_of_length_le (by omega), limb_ge (i := j + 1) (by omega), limb_ge (i := j) (by omega)]; exact ⟨0, by simp [val]⟩

theorem shr_step {l r : List Nat} {j s : Nat} (hsm : Small l) (hs : s < 32) (hj : j < l.length) (hr : r.length = j) (hv : val r = val l / 2 ^ s % 4294967296 ^ j) :
    val (r ++ [(limb l j + 4294967296 * limb l (j + 1)) / 2 ^ s % 4294967296]) = val l / 2 ^ s % 4294967296 ^ (j + 1) := by
  rw [val_append, val_single, hr, hv, Nat.mod_pow_succ]
  congr 2
  rw [Nat.div_div_eq_div_mul, Nat.mul_comm (2 ^ s), ← Nat.div_div_eq_div_mul]
  have e1 : val l / 4294967296 ^ j = val (l.drop j) := by
    have e := val_take_drop l j (by omega)
    have hlt := val_take_lt hsm (t := j) (by omega)
    rw [e, Nat.add_mul_div_left _ _ (Nat.pow_pos (by decide)), Nat.div_eq_of_lt hlt, Nat.zero_add]
  obtain ⟨D, hD⟩ := val_drop_two l j
  have e2 : 18446744073709551616 * D = 2 ^ s * (4294967296 * (2 ^ (32 - s) * D)) := by
    rw [Nat.mul_left_comm 4294967296, ← Nat.mul_assoc, ← Nat.pow_add, show s + (32 - s) = 32 from by omega]; omega
  rw [e1, hD, e2, Nat.add_mul_div_left _ _ (Nat.two_pow_pos _), Nat.add_mul_mod_self_left]

set_option maxHeartbeats 1000000 in
set_option maxRecDepth 100000 in
theorem nat_ShiftRight (w : World) (a : Option Addr) (k c n s : Nat) (ha : Raw w a k c n) (hs : s < 32) :
    Calls Tryz.prog 239 #[.slice a k c, .int .i64 (s : Nat)] w (NewNatOk (n / 2 ^ s) w) := by
  have ha' := ha.cut
  have la := ha'.le
  by_cases h0 : n = 0
  · subst h0
    go_enter Tryz.func239, Tryz.ntmps239
    go_wp2_with fail
    refine (nat_cut _ _ _ _ _ ha).mono ?_
    rintro e w' ⟨rfl, rfl⟩
    rw [len_zero]
    go_wp2
    go_ret2
    rw [Nat.zero_div]
    exact ⟨none, 0, rfl, Raw.nil _, Fr.none _, Ext.refl _⟩
  · have hp := len_pos.2 (Nat.pos_of_ne_zero h0)
    obtain ⟨l, hl, hv, hA⟩ := ha'
    obtain ⟨p, o, rfl⟩ := hA.at (by omega)
    have s1 := hA.small
    have HL := Lib.hid hl; have HV := Lib.hid hv
    clear hl hv
    have hcap : ¬ c = 0 := by omega
    go_enter Tryz.func239, Tryz.ntmps239
    go_wp2_with fail
    refine (nat_cut _ _ _ _ _ ha).mono ?_
    rintro e w' ⟨rfl, rfl⟩
    go_wp2_with (at_make; refine wpList_make_one _ rfl _ _ 51 rfl 122 (.int .u32 0) 4 Tryz.underlying51 Tryz.info_u32 rfl _ _ (len n) rfl rfl (by go_num) (by go_num) (by omega) (by omega) ?_; intro w1 hw1 hx1 hz1)
    rw [show s / 32 = 0 from by omega, show ((s : Int) % 32) = (s : Int) from by omega, Nat.add_zero, Nat.sub_zero]
    go_loopw [31] (fun i wr => ∃ (j : Nat) (r : List Nat), j ≤ len n ∧ Hid (r.length = j) ∧ Small r ∧ Hid (val r = val l / 2 ^ s % 4294967296 ^ j) ∧ Hid (Arr wr w.heap.size 122 (u32s (r ++ List.replicate (len n - j) 0))) ∧ Ext w wr ∧ i = .int .i64 j) (fun i _ => len n - (intOf i).toNat)
    case atStart => exact ⟨0, [], Nat.zero_le _, rfl, Small.nil, (show _ = _ by simp [val, Nat.mod_one]), by have := hw1.out; rw [u32s_replicate] at this; exact this, hx1, rfl⟩
    case round =>
      obtain ⟨j, r, hj, hr, hsm, hval, harr, hext, rfl⟩ := hrel
      by_cases h1 : j < len n
      · have hc := (hA.ext hext).cellAt j (by rw [HL.out]; omega)
        have hx := limb_lt s1 j
        have hst : wr.cell? ⟨w.heap.size, j, none⟩ = some (.int .u32 0) := by
          rw [harr.out.cell, u32s_get _ _ (by simp [hr.out]; omega)]
          simp [limb, hr.out, show 0 < len n - j from by omega]
        have hfz := harr.out.frozen j
        have hnew : ∀ (x : Nat) (v : Int), v = (x : Int) → Arr (wr.setCell ⟨w.heap.size, j, none⟩ (.int .u32 v)) w.heap.size 122 (u32s ((r ++ [x]) ++ List.replicate (len n - (j + 1)) 0)) := by
          intro x v hv
          subst hv
          have := harr.out.set j (.int .u32 (x : Nat))
          rw [u32s_set, List.set_append_right _ _ (by rw [hr.out]; exact Nat.le_refl _), hr.out, Nat.sub_self, show len n - j = (len n - (j + 1)) + 1 from by omega, List.replicate_succ, List.set_cons_zero] at this
          rw [List.append_assoc]; exact this
        have HN := Lib.hid hnew; clear hnew
        have HS := Lib.hid (shr_step s1 hs (by rw [HL.out]; omega) hr.out hval.out)
        by_cases h2 : j + 1 < len n
        · have hc' := (hA.ext hext).cellAt (j + 1) (by rw [HL.out]; omega)
          have hy := limb_lt s1 (j + 1)
          have E1 := Lib.hid (or_hi (limb l j) (limb l (j + 1)) hx hy)
          go_wp2
          rw [E1.out]
          refine ⟨⟨j + 1, _, by omega, (show _ = _ by simp [hr.out]), hsm.append (Small.one (Nat.mod_lt _ (by decide))), HS, HN.out _ _ ?_, hext.setCell (Nat.le_refl _) _, by go_num⟩, ?_⟩
          · rw [Int.natCast_emod, Int.natCast_ediv, Int.natCast_pow]; rfl
          · simp [intOf]; omega
        · have E1 := Lib.hid (limb_ge (l := l) (i := j + 1) (by rw [HL.out]; omega))
          go_wp2
          refine ⟨⟨j + 1, _, by omega, (show _ = _ by simp [hr.out]), hsm.append (Small.one (Nat.mod_lt _ (by decide))), HS, HN.out _ _ ?_, hext.setCell (Nat.le_refl _) _, by go_num⟩, ?_⟩
          · rw [E1.out, Nat.mul_zero, Nat.add_zero, Int.natCast_emod, Int.natCast_ediv, Int.natCast_pow]; rfl
          · simp [intOf]; omega
      · obtain rfl : j = len n := by omega
        have hraw : Raw wr (some ⟨w.heap.size, 0, none⟩) (len n) (len n) (n / 2 ^ s) := by
          have h3 := harr.out
          rw [Nat.sub_self, List.replicate_zero, List.append_nil] at h3
          have h4 := h3.limbs hsm (by rw [hr.out]; omega)
          rw [hr.out] at h4
          refine ⟨r, hr.out, ?_, h4⟩
          rw [hval.out, HV.out, Nat.mod_eq_of_lt (Nat.lt_of_le_of_lt (Nat.div_le_self _ _) (lt_pow_len n))]
        have HR := Lib.hid hraw; clear hraw
        go_wp2_with (go_at_call 213; refine (nat_cut _ _ _ _ _ HR.out).mono ?_; rintro e w' ⟨rfl, rfl⟩)
        go_ret2
        exact ⟨_, _, rfl, HR.out.cut, Fr.some (Nat.le_refl _), hext⟩
end Go.Proofs.YtgihpfkjpfanmaaGreat


namespace Go.Proofs.YtgihpfkjpfanmaaGreat
open Go.RowKit

/-- A cell of the window X in the block A ++ X ++ C. -/
theorem win_at {w : World} {b i : Nat} {T : TypeId} {A X C : List Nat} (h : Arr w b T (u32s (A ++ X ++ C))) (hi : i < X.length) : w.cell? ⟨b, A.length + i, none⟩ = some (.int .u32 (limb X i : Nat)) := by
  rw [h.cell, u32s_get _ _ (by simp; omega)]
  congr 3
  unfold limb
  rw [List.append_assoc, List.getElem?_append_right (by omega), Nat.add_sub_cancel_left, List.getElem?_append_left hi]
theorem win_set {w : World} {b i : Nat} {T : TypeId} {A X C : List Nat} (h : Arr w b T (u32s (A ++ X ++ C))) (hi : i < X.length) (x : Nat) (v : Int) (hv : v = (x : Int)) : Arr (w.setCell ⟨b, A.length + i, none⟩ (.int .u32 v)) b T (u32s (A ++ X.set i x ++ C)) := by
  subst hv
  have := h.set (A.length + i) (.int .u32 (x : Nat))
  rw [u32s_set, List.append_assoc, List.set_append_right _ _ (by omega), Nat.add_sub_cancel_left, List.set_append_left _ _ hi, ← List.append_assoc] at this
  exact this

/-- What nextDigit leaves. -/
def Digit (b : Nat) (A C : List Nat) (n U V : Nat) (w : World) (e : Ending) (w' : World) : Prop :=
  ∃ r, e = .returned (.int .u32 (U / V : Nat)) ∧ r.length = n + 1 ∧ Small r ∧ val r = U % V ∧ Arr w' b 122 (u32s (A ++ r ++ C)) ∧ Touch b (b + 1) w w'

theorem mulsub_int (x y d c : Nat) (hx : x < 4294967296) (hy : y < 4294967296) (hd : d < 4294967296) (hc : c < 4294967296) :
    ∃ z c' : Nat, z + (d * y + c) = x + 4294967296 * c' ∧ z < 4294967296 ∧ c' < 4294967296 ∧ IntKind.u64.wrap ((x : Int) - ((d : Int) * (y : Int) + (c : Int)) % 4294967296) % 4294967296 = (z : Int) ∧
      IntKind.u64.wrap (((d : Int) * (y : Int) + (c : Int)) / 4294967296 + IntKind.u64.wrap ((x : Int) - ((d : Int) * (y : Int) + (c : Int)) % 4294967296) / 9223372036854775808) = (c' : Int) := by
  have hp : d * y ≤ 4294967295 * 4294967295 := Nat.mul_le_mul (by omega) (by omega)
  rw [← Int.natCast_mul, IntKind.wrap_u64, IntKind.wrap_u64]
  generalize d * y = t at *
  by_cases h : x < (t + c) % 4294967296
  · exact ⟨x + 4294967296 - (t + c) % 4294967296, (t + c) / 4294967296 + 1, by omega, by omega, by omega, by omega, by omega⟩
  · exact ⟨x - (t + c) % 4294967296, (t + c) / 4294967296, by omega, by omega, by omega, by omega, by omega⟩

theorem win_next {r X : List Nat} {i : Nat} (hr : r.length = i) (hi : i < X.length) (z : Nat) : (r ++ X.drop i).set i z = (r ++ [z]) ++ X.drop (i + 1) := by
  rw [List.set_append_right _ _ (by omega), hr, Nat.sub_self, List.drop_eq_getElem_cons hi, List.set_cons_zero, List.append_assoc]; rfl
theorem win_limb {r X : List Nat} {i : Nat} (hr : r.length = i) (j : Nat) (h : i ≤ j) : limb (r ++ X.drop i) j = limb X j := by
  unfold limb; rw [List.getElem?_append_right (by omega), hr, List.getElem?_drop]; congr 2; omega

set_option maxHeartbeats 2000000 in
set_option maxRecDepth 100000 in
theorem nat_nextDigit (w : World) (bu bv cu cv n : Nat) (A X C Y : List Nat) (hne : bv ≠ bu) (hU : Arr w bu 122 (u32s (A ++ X ++ C))) (hX : X.length = n + 1) (sX : Small X) (hcu : n + 1 ≤ cu) (hcu' : cu ≤ 1099511627776)
    (hV : Limbs w (some ⟨bv, 0, none⟩) cv Y) (hY : Y.length = n) (h2 : 2 ≤ n) (htop : 2147483648 ≤ limb Y (n - 1)) (hlt : val X < val Y * 4294967296) :
    Calls Tryz.prog 238 #[.slice (some ⟨bu, A.length, none⟩) ((n + 1 : Nat)) cu, .slice (some ⟨bv, 0, none⟩) n cv] w (Digit bu A C n (val X) (val Y) w) := by
  have sY := hV.small
  have lv := hV.le
  have lv2 := hV.short
  have cx2 := win_at hU (i := n) (by omega)
  have cx1 := win_at hU (i := n - 1) (by omega)
  have cx0 := win_at hU (i := n - 2) (by omega)
  have cy1 := hV.cellAt (n - 1) (by omega)
  have cy0 := hV.cellAt (n - 2) (by omega)
  rw [Nat.zero_add] at cy0 cy1
  have bx2 := limb_lt sX n
  have bx1 := limb_lt sX (n - 1)
  have bx0 := limb_lt sX (n - 2)
  have by1 := limb_lt sY (n - 1)
  have by0 := limb_lt sY (n - 2)
  have HT := Lib.hid (or_lo (limb X n) (limb X (n - 1)) bx2 bx1)
  have dy1 : (((limb Y (n - 1) : Nat) : Int) == 0) = false := by rw [beq_eq_false_iff_ne]; omega
  have dy1' : ((limb Y (n - 1) : Nat) : Int) ≠ 0 := by omega
  have HX := Lib.hid hX; have HY := Lib.hid hY; clear hX hY
  have HU := Lib.hid hU; clear hU
  go_enter Tryz.func238, Tryz.ntmps238
  go_wp2_with fail
  go_quiet (fail)
  go_wp2_with fail
  rw [HT.out]
  have htb : limb X (n - 1) + 4294967296 * limb X n < 18446744073709551616 := by omega
  generalize hgt : limb X (n - 1) + 4294967296 * limb X n = top at htb ⊢
  have HGT := Lib.hid hgt; clear hgt HT
  have g0 : IntKind.i64.wrap ((n : Int) - 1) = (n : Int) - 1 := IntWalk.i64_in _ (by omega)
  have g1 : (0 : Int) ≤ (n : Int) - 1 := by omega
  have g2 : (n : Int) - 1 < (n : Int) := by omega
  have g3 : ((n : Int) - 1).toNat = n - 1 := by omega
  have g4 : (1 : Int) ≤ (n : Int) := by omega
  have g5 : 1 ≤ n := by omega
  go_quiet (fail)
  clear g0 g1 g2 g3
  have hUe : val X = val (X.take (n - 2)) + 4294967296 ^ (n - 2) * (limb X (n - 2) + 4294967296 * top) := by
    have := val_top3 (X := X) (t := n - 2) (by rw [HX.out]; omega)
    rw [show n - 2 + 1 = n - 1 from by omega, show n - 2 + 2 = n from by omega, HGT.out] at this
    exact this
  have hVe : val Y = val (Y.take (n - 2)) + 4294967296 ^ (n - 2) * (limb Y (n - 2) + 4294967296 * limb Y (n - 1)) := by
    have := val_top2 (X := Y) (t := n - 2) (by rw [HY.out]; omega)
    rw [show n - 2 + 1 = n - 1 from by omega] at this
    exact this
  have lx := val_take_lt sX (t := n - 2) (by rw [HX.out]; omega)
  have ly := val_take_lt sY (t := n - 2) (by rw [HY.out]; omega)
  have hV0 : 0 < val Y := by
    have := Nat.mul_le_mul_left (4294967296 ^ (n - 2)) (show 1 ≤ limb Y (n - 2) + 4294967296 * limb Y (n - 1) by omega)
    omega
  obtain ⟨hf1, hf2⟩ := knuth_first hUe hVe lx ly bx0 by0 htop hlt
  have HUe := Lib.hid hUe; have HVe := Lib.hid hVe; have Hlx := Lib.hid lx; have Hly := Lib.hid ly
  clear hUe hVe lx ly
  have hq0 : val X / val Y < 4294967296 := by rw [Nat.div_lt_iff_lt_mul hV0, Nat.mul_comm]; exact hlt
  have hr0 := Nat.mod_lt top (show 0 < limb Y (n - 1) by omega)
  have hdm := Nat.div_add_mod' top (limb Y (n - 1))
  have e7 : IntKind.u64.wrap ((top : Int) / ((limb Y (n - 1) : Nat) : Int)) = ((top / limb Y (n - 1) : Nat) : Int) := by
    rw [← Int.natCast_ediv, IntKind.wrap_u64]
    generalize top / limb Y (n - 1) = z at *
    omega
  have e8 : ((top : Int) % ((limb Y (n - 1) : Nat) : Int)) = ((top % limb Y (n - 1) : Nat) : Int) := by rw [Int.natCast_emod]
  rw [e7, e8]
  clear e7 e8
  generalize top / limb Y (n - 1) = d0 at *
  generalize top % limb Y (n - 1) = r0 at *
  have HDM := Lib.hid hdm; clear hdm
  go_upto_block 0 with fail
  go_cut [7] (fun d wx => ∃ dd : Nat, dd < 4294967296 ∧ val X / val Y ≤ dd ∧ dd ≤ val X / val Y + 1 ∧ Quiet w wx ∧ d = .int .u64 dd)
  case first =>
    go_wp2_with fail
    go_loopw [7, 8] (fun d r wr => ∃ (dd rr : Nat), Hid (dd * limb Y (n - 1) + rr = top) ∧ rr < 4294967296 ∧ dd ≤ 4294967297 ∧ Hid (val X / val Y ≤ dd) ∧ Quiet w wr ∧ d = .int .u64 dd ∧ r = .int .u64 rr) (fun d _ _ => (intOf d).toNat)
    case atStart => exact ⟨d0, r0, HDM, by omega, hf2, hf1, (Quiet.refl _).drewN _ |>.drewN _, rfl, rfl⟩
    case round =>
      obtain ⟨dd, rr, hdr, hrr, hdd, hqd, hq, rfl, rfl⟩ := hrel
      obtain ⟨nq2, rfl⟩ := hq
      by_cases hB : dd < 4294967296
      · have b1 : (((dd : Int) / 4294967296) != 0) = false := by simp; omega
        have hor := or_lo rr (limb X (n - 2)) hrr bx0
        have hm1 : dd * limb Y (n - 2) ≤ 4294967295 * 4294967295 := Nat.mul_le_mul (by omega) (by omega)
        have hm2 : IntKind.u64.wrap ((dd : Int) * ((limb Y (n - 2) : Nat) : Int)) = (dd : Int) * ((limb Y (n - 2) : Nat) : Int) := by
          rw [← Int.natCast_mul, IntKind.wrap_u64]; omega
        have g0 : IntKind.i64.wrap ((n : Int) - 2) = (n : Int) - 2 := IntWalk.i64_in _ (by omega)
        have g1 : (0 : Int) ≤ (n : Int) - 2 := by omega
        have g2 : (n : Int) - 2 < (n : Int) := by omega
        have g3 : ((n : Int) - 2).toNat = n - 2 := by omega
        have g6 : (2 : Int) ≤ (n : Int) := by omega
        by_cases hgt : rr * 4294967296 + limb X (n - 2) < dd * limb Y (n - 2)
        · have b2 : decide (((limb X (n - 2) : Nat) : Int) + 4294967296 * (rr : Int) < (dd : Int) * ((limb Y (n - 2) : Nat) : Int)) = true := by
            rw [← Int.natCast_mul]; simp; omega
          have hd1 : 1 ≤ dd := Nat.pos_of_ne_zero (fun h => by rw [h, Nat.zero_mul] at hgt; omega)
          have hov : val X / val Y + 1 ≤ dd := quot_lt hV0 (knuth_over HUe.out HVe.out Hlx.out hdr.out hgt)
          have hmul : (dd - 1) * limb Y (n - 1) + (rr + limb Y (n - 1)) = top := by
            have h9 := hdr.out
            have h8 : (dd - 1) * limb Y (n - 1) + limb Y (n - 1) = dd * limb Y (n - 1) := by
              rw [← Nat.succ_mul]; congr 1; omega
            omega
          have HM := Lib.hid hmul; clear hmul
          have HOV := Lib.hid hov; clear hov
          have dw : ((dd : Int) - 1) = ((dd - 1 : Nat) : Int) := by omega
          have DW := Lib.hid dw; clear dw
          by_cases hbr : rr + limb Y (n - 1) < 4294967296
          · have b3 : ((((rr : Int) + ((limb Y (n - 1) : Nat) : Int)) / 4294967296) != 0) = false := by simp; omega
            go_wp2_with fail
            go_quiet (fail)
            go_wp2_with fail
            rw [DW.out]
            go_roundw
            case rel => exact ⟨dd - 1, rr + limb Y (n - 1), HM, hbr, by omega, (show _ ≤ _ by have := HOV.out; omega), ⟨_, rfl⟩, rfl, by go_num⟩
            case measure => simp [intOf]; omega
          · have b3 : ((((rr : Int) + ((limb Y (n - 1) : Nat) : Int)) / 4294967296) != 0) = true := by simp; omega
            go_wp2_with fail
            go_quiet (fail)
            go_wp2_with fail
            rw [DW.out]
            go_meet
            have h1 := knuth_break HUe.out HVe.out Hly.out by0 (d := dd - 1) (by omega) HM.out (by omega)
            have h2 := quot_le hV0 h1
            have h3 := HOV.out
            exact ⟨dd - 1, by omega, by omega, by omega, ⟨_, rfl⟩, rfl⟩
        · have b2 : decide (((limb X (n - 2) : Nat) : Int) + 4294967296 * (rr : Int) < (dd : Int) * ((limb Y (n - 2) : Nat) : Int)) = false := by
            rw [← Int.natCast_mul]; simp; omega
          go_wp2_with fail
          go_quiet (fail)
          go_wp2_with fail
          go_meet
          have h1 := knuth_near HUe.out HVe.out Hly.out (by omega) hB hdr.out (by omega)
          exact ⟨dd, hB, hqd.out, quot_near hV0 h1, ((Quiet.refl _).drewN _).drewN _, rfl⟩
      · have b1 : (((dd : Int) / 4294967296) != 0) = true := by simp; omega
        have hd1 : 1 ≤ dd := by omega
        have hov : val X / val Y + 1 ≤ dd := by omega
        have hmul : (dd - 1) * limb Y (n - 1) + (rr + limb Y (n - 1)) = top := by
          have h9 := hdr.out
          have h8 : (dd - 1) * limb Y (n - 1) + limb Y (n - 1) = dd * limb Y (n - 1) := by
            rw [← Nat.succ_mul]; congr 1; omega
          omega
        have HM := Lib.hid hmul; clear hmul
        have HOV := Lib.hid hov; clear hov
        have dw : ((dd : Int) - 1) = ((dd - 1 : Nat) : Int) := by omega
        have DW := Lib.hid dw; clear dw
        by_cases hbr : rr + limb Y (n - 1) < 4294967296
        · have b3 : ((((rr : Int) + ((limb Y (n - 1) : Nat) : Int)) / 4294967296) != 0) = false := by simp; omega
          go_wp2_with fail
          go_quiet (fail)
          go_wp2_with fail
          rw [DW.out]
          go_roundw
          case rel => exact ⟨dd - 1, rr + limb Y (n - 1), HM, hbr, by omega, (show _ ≤ _ by have := HOV.out; omega), ⟨_, rfl⟩, rfl, by go_num⟩
          case measure => simp [intOf]; omega
        · have b3 : ((((rr : Int) + ((limb Y (n - 1) : Nat) : Int)) / 4294967296) != 0) = true := by simp; omega
          go_wp2_with fail
          go_quiet (fail)
          go_wp2_with fail
          rw [DW.out]
          go_meet
          have h1 := knuth_break HUe.out HVe.out Hly.out by0 (d := dd - 1) (by omega) HM.out (by omega)
          have h2 := quot_le hV0 h1
          have h3 := HOV.out
          exact ⟨dd - 1, by omega, by omega, by omega, ⟨_, rfl⟩, rfl⟩
  case rest =>
    obtain ⟨dd, hdB, hq1, hq2, hq, rfl⟩ := hcut
    have HQ1 := Lib.hid hq1; have HQ2 := Lib.hid hq2; clear hq1 hq2
    obtain ⟨nq3, rfl⟩ := hq
    clear cx2 cx1 cx0 cy1 cy0 dy1 dy1' g4 g5 bx0 bx1 by0 by1 hf1 hf2 hr0 HDM HGT HUe HVe Hlx Hly
    go_wp2_with fail
    go_loopw [9, 86] (fun cy i wr => ∃ (j c : Nat) (r : List Nat), j ≤ n ∧ Hid (r.length = j) ∧ Small r ∧ c < 4294967296 ∧ Hid (val r + dd * val (Y.take j) = val (X.take j) + 4294967296 ^ j * c) ∧ Hid (Arr wr bu 122 (u32s (A ++ (r ++ X.drop j) ++ C))) ∧ Touch bu (bu + 1) w wr ∧ cy = .int .u64 c ∧ i = .int .i64 j) (fun _ i _ => n - (intOf i).toNat)
    case atStart => exact ⟨0, 0, [], Nat.zero_le _, rfl, Small.nil, by omega, (show _ = _ by simp [val]), (show Arr _ _ _ _ by simpa using HU.out.ext ((Ext.refl _).drewN _)), (Touch.refl _ _ _).drewN _, rfl, rfl⟩
    case round =>
      obtain ⟨j, c, r, hj, hr, hsm, hc, hval, harr, htch, rfl, rfl⟩ := hrel
      by_cases h0 : j < n
      · have hyc := (hV.touch htch (fun x e => by cases e; simp only; omega)).cellAt j (by rw [HY.out]; omega)
        rw [Nat.zero_add] at hyc
        have hxc := win_at harr.out (i := j) (by simp [hr.out, HX.out]; omega)
        rw [win_limb hr.out j (Nat.le_refl _)] at hxc
        have hfz := harr.out.frozen (A.length + j)
        have hx := limb_lt sX j
        have hy := limb_lt sY j
        have hxy : dd * limb Y j ≤ 4294967295 * 4294967295 := Nat.mul_le_mul (by omega) (by omega)
        have hxy' : (dd : Int) * ((limb Y j : Nat) : Int) ≤ 18446744065119617025 := by rw [← Int.natCast_mul]; omega
        have hxy0 : 0 ≤ (dd : Int) * ((limb Y j : Nat) : Int) := by rw [← Int.natCast_mul]; omega
        obtain ⟨z, c', e0, hz, hc', e1, e2⟩ := mulsub_int (limb X j) (limb Y j) dd c hx hy hdB hc
        have E0 := Lib.hid e0; have E1 := Lib.hid e1; have E2 := Lib.hid e2; clear e0 e1 e2
        have HN := Lib.hid (fun v hv => win_set harr.out (i := j) (by simp [hr.out, HX.out]; omega) z v hv)
        go_wp2_with fail
        rw [E1.out, E2.out]
        refine ⟨⟨j + 1, c', r ++ [z], by omega, (show _ = _ by simp [hr.out]), hsm.append (Small.one hz), hc', mulsub_step (by rw [HX.out]; omega) (by rw [HY.out]; omega) hr.out hval.out E0.out, ?_, htch.setCell (Nat.le_refl _) (Nat.lt_succ_self _) _, rfl, by go_num⟩, ?_⟩
        · have := HN.out _ rfl
          rw [win_next hr.out (by rw [HX.out]; omega)] at this
          exact this
        · simp [intOf]; omega
      · obtain rfl : j = n := by omega
        have hxc := win_at harr.out (i := j) (by simp [hr.out, HX.out])
        rw [win_limb hr.out j (Nat.le_refl _)] at hxc
        have hfz := harr.out.frozen (A.length + j)
        have tY : Y.take j = Y := List.take_of_length_le (by rw [HY.out]; exact Nat.le_refl _)
        have eX := val_take_succ (l := X) (k := j) (by rw [HX.out]; omega)
        rw [List.take_of_length_le (by rw [HX.out]; exact Nat.le_refl _)] at eX
        have hv2 := hval.out
        rw [tY] at hv2
        have HEX := Lib.hid eX; have HV2 := Lib.hid hv2; have HTY := Lib.hid tY
        clear eX hv2 tY
        have hnx : ∀ z : Nat, (r ++ X.drop j).set j z = r ++ [z] := by
          intro z
          rw [win_next hr.out (by rw [HX.out]; omega), List.drop_of_length_le (by rw [HX.out]; exact Nat.le_refl _), List.append_nil]
        have HNX := Lib.hid hnx; clear hnx
        by_cases hcx : c ≤ limb X j
        · have e3 : IntKind.u64.wrap (((limb X j : Nat) : Int) - (c : Int)) = ((limb X j - c : Nat) : Int) := by rw [IntKind.wrap_u64]; omega
          have hDb : limb X j - c < 4294967296 := by omega
          have hfin : dd = val X / val Y ∧ val (r ++ [limb X j - c]) = val X % val Y := by
            refine knuth_fit hV0 ?_ HQ1.out
            have h5 := HEX.out
            have h6 := HV2.out
            rw [val_append, val_single, hr.out]
            have h7 : 4294967296 ^ j * (limb X j - c) + 4294967296 ^ j * c = 4294967296 ^ j * limb X j := by rw [← Nat.mul_add, Nat.sub_add_cancel hcx]
            omega
          have HF := Lib.hid hfin; clear hfin
          have HN := Lib.hid (fun v hv => win_set harr.out (i := j) (by simp [hr.out, HX.out]) (limb X j - c) v hv)
          generalize limb X j - c = D at *
          have b5 : (((D : Int) / 9223372036854775808) == 0) = true := by simp; omega
          have E3 := e3
          go_wp2_with fail
          go_ret
          refine ⟨r ++ [D], by rw [← HF.out.1]; rfl, by simp [hr.out], hsm.append (Small.one hDb), HF.out.2, ?_, htch.setCell (Nat.le_refl _) (Nat.lt_succ_self _) _⟩
          have := HN.out _ rfl
          rw [HNX.out] at this
          exact this
        · have hcx2 : limb X j < c := by omega
          have e3 : IntKind.u64.wrap (((limb X j : Nat) : Int) - (c : Int)) = ((limb X j + 18446744073709551616 - c : Nat) : Int) := by rw [IntKind.wrap_u64]; omega
          have hDb : limb X j + 4294967296 - c < 4294967296 := by omega
          have hDm : (limb X j + 18446744073709551616 - c) % 4294967296 = limb X j + 4294967296 - c := by omega
          have hDl : 9223372036854775808 ≤ limb X j + 18446744073709551616 - c ∧ limb X j + 18446744073709551616 - c < 18446744073709551616 := by omega
          have hR : val (r ++ [limb X j + 4294967296 - c]) + dd * val Y = val X + 4294967296 ^ j * 4294967296 := by
            have h5 := HEX.out
            have h6 := HV2.out
            rw [val_append, val_single, hr.out]
            have h7 : 4294967296 ^ j * (limb X j + 4294967296 - c) + 4294967296 ^ j * c = 4294967296 ^ j * limb X j + 4294967296 ^ j * 4294967296 := by rw [← Nat.mul_add, ← Nat.mul_add, Nat.sub_add_cancel (by omega)]
            omega
          have hlt2 : val X < dd * val Y := by
            have h8 := val_lt (hsm.append (Small.one hDb))
            rw [List.length_append, hr.out, List.length_singleton, Nat.pow_succ] at h8
            omega
          have HR := Lib.hid hR; have HLT := Lib.hid hlt2; clear hR hlt2
          have HN := Lib.hid (fun v hv => win_set harr.out (i := j) (by simp [hr.out, HX.out]) (limb X j + 4294967296 - c) v hv)
          have hd1 : 1 ≤ dd := Nat.pos_of_ne_zero (fun h => by have := HLT.out; rw [h, Nat.zero_mul] at this; omega)
          generalize limb X j + 18446744073709551616 - c = D at *
          generalize limb X j + 4294967296 - c = D' at *
          have b5 : (((D : Int) / 9223372036854775808) == 0) = false := by simp; omega
          have e4 : (D : Int) % 4294967296 = (D' : Int) := by omega
          have HDM := Lib.hid hDm; clear hDm
          have E3 := e3
          go_wp2_with fail
          have hW0 : Hid (Arr (wr.setCell ⟨bu, A.length + j, none⟩ (.int .u32 (D' : Nat))) bu 122 (u32s (A ++ (r ++ [D']) ++ C))) := by
            have := HN.out _ rfl
            rw [HNX.out] at this
            exact this
          have hT0 : Touch bu (bu + 1) w (wr.setCell ⟨bu, A.length + j, none⟩ (.int .u32 (D' : Nat))) := htch.setCell (Nat.le_refl _) (Nat.lt_succ_self _) _
          have sX1 := hsm.append (Small.one hDb)
          have hX1 : (r ++ [D']).length = j + 1 := by simp [hr.out]
          have HX1 := Lib.hid hX1
          have hlast : limb (r ++ [D']) j = D' := by unfold limb; rw [List.getElem?_append_right (by rw [hr.out]; exact Nat.le_refl _), hr.out, Nat.sub_self]; rfl
          have HLA := Lib.hid hlast; clear hlast hX1
          generalize wr.setCell ⟨bu, A.length + j, none⟩ (.int .u32 (D' : Nat)) = w4 at *
          clear HN HNX harr htch hxc hfz b5 e4 e3 E3 HDM HEX HV2
          generalize r ++ [D'] = X1 at *
          go_loopw [9, 136] (fun cy i wr => ∃ (t c : Nat) (s : List Nat), t ≤ j ∧ Hid (s.length = t) ∧ Small s ∧ c ≤ 1 ∧ Hid (val s + 4294967296 ^ t * c = val (X1.take t) + val (Y.take t)) ∧ Hid (Arr wr bu 122 (u32s (A ++ (s ++ X1.drop t) ++ C))) ∧ Touch bu (bu + 1) w wr ∧ cy = .int .u64 c ∧ i = .int .i64 t) (fun _ i _ => j - (intOf i).toNat)
          case atStart => exact ⟨0, 0, [], Nat.zero_le _, rfl, Small.nil, by omega, (show _ = _ by simp [val]), (show Arr _ _ _ _ by simpa using hW0.out), hT0, rfl, rfl⟩
          case round =>
            obtain ⟨t, c1, s, ht, hs, hss, hc1, hvs, hars, htcs, rfl, rfl⟩ := hrel
            by_cases h1 : t < j
            · have hyc := (hV.touch htcs (fun x e => by cases e; simp only; omega)).cellAt t (by rw [HY.out]; omega)
              rw [Nat.zero_add] at hyc
              have hxc := win_at hars.out (i := t) (by simp [hs.out, HX1.out]; omega)
              rw [win_limb hs.out t (Nat.le_refl _)] at hxc
              have hfz := hars.out.frozen (A.length + t)
              have hx := limb_lt sX1 t
              have hy := limb_lt sY t
              have HN := Lib.hid (fun v hv => win_set hars.out (i := t) (by simp [hs.out, HX1.out]; omega) ((c1 + limb X1 t + limb Y t) % 4294967296) v hv)
              have HA := Lib.hid (add_step (L := X1) (M := Y) (cy := c1) (i := t) (by rw [HX1.out]; omega) hs.out hvs.out (by rw [HY.out]; omega))
              go_wp2_with fail
              refine ⟨⟨t + 1, (c1 + limb X1 t + limb Y t) / 4294967296, s ++ [(c1 + limb X1 t + limb Y t) % 4294967296], by omega, (show _ = _ by simp [hs.out]), hss.append (Small.one (Nat.mod_lt _ (by decide))), by omega, HA, ?_, htcs.setCell (Nat.le_refl _) (Nat.lt_succ_self _) _, ?_, by go_num⟩, ?_⟩
              · have := HN.out _ (show ((c1 : Int) + (((limb X1 t : Nat) : Int) + ((limb Y t : Nat) : Int))) % 4294967296 = _ by omega)
                rw [win_next hs.out (by rw [HX1.out]; omega)] at this
                exact this
              · congr 1; omega
              · simp [intOf]; omega
            · obtain rfl : t = j := by omega
              have hxc := win_at hars.out (i := t) (by simp [hs.out, HX1.out])
              rw [win_limb hs.out t (Nat.le_refl _), HLA.out] at hxc
              have hfz := hars.out.frozen (A.length + t)
              have hvY := hvs.out
              rw [HTY.out] at hvY
              have eX := val_take_succ (l := X1) (k := t) (by rw [HX1.out]; omega)
              rw [List.take_of_length_le (by rw [HX1.out]; exact Nat.le_refl _), HLA.out] at eX
              have hsl := val_lt hss
              rw [hs.out] at hsl
              have hYl := val_lt sY
              rw [HY.out] at hYl
              have hfin := knuth_back (P := 4294967296 ^ t) (T := val s) (c := D' + c1) hV0 HLT.out HQ2.out (by omega) HR.out (by rw [Nat.mul_add]; omega) hsl
              obtain ⟨f1, f2, f3⟩ := hfin
              have F1 := Lib.hid f1; have F3 := Lib.hid f3; clear f1 f3 hvY eX hsl hYl
              have e6 : IntKind.u32.wrap ((D' : Int) + (c1 : Int)) = 0 := by
                rw [show (D' : Int) + (c1 : Int) = 4294967296 from by omega]; decide
              have hD' : (D' : Int) + (c1 : Int) = 4294967296 := by omega
              have HD' := Lib.hid hD'; have HF2 := Lib.hid f2; clear hD' f2
              have HN := Lib.hid (fun v hv => win_set hars.out (i := t) (by simp [hs.out, HX1.out]) 0 v hv)
              go_wp2_with fail
              go_ret
              refine ⟨s ++ [0], ret_int (by have := F1.out; omega), by simp [hs.out], hss.append (Small.one (by decide)), ?_, ?_, htcs.setCell (Nat.le_refl _) (Nat.lt_succ_self _) _⟩
              · rw [val_append, val_single, Nat.mul_zero, Nat.add_zero, F3.out]
              · have := HN.out _ rfl
                rw [win_next hs.out (by rw [HX1.out]; omega), List.drop_of_length_le (by rw [HX1.out]; exact Nat.le_refl _), List.append_nil] at this
                exact this
end Go.Proofs.YtgihpfkjpfanmaaGreat


namespace Go.Proofs.YtgihpfkjpfanmaaGreat
open Go.RowKit

/-- The number of leading zeros of a limb. -/
def lz (x : Nat) : Nat := 32 - Lib.bitLen x

theorem bitLen_bounds : ∀ x : Nat, 0 < x → x < 2 ^ 64 → 1 ≤ Lib.bitLen x ∧ 2 ^ (Lib.bitLen x - 1) ≤ x ∧ x < 2 ^ Lib.bitLen x := by
  intro x
  induction x using Nat.strongRecOn with
  | ind x ih =>
    intro h0 h
    rw [Lib.bitLen_half x (by omega) h]
    by_cases h1 : x / 2 = 0
    · rw [h1, show Lib.bitLen 0 = 0 from rfl]; simp; omega
    · obtain ⟨a, b, c⟩ := ih (x / 2) (by omega) (by omega) (by omega)
      refine ⟨by omega, ?_, ?_⟩
      · obtain ⟨t, e⟩ : ∃ t, Lib.bitLen (x / 2) = t + 1 := ⟨Lib.bitLen (x / 2) - 1, by omega⟩
        rw [e] at b ⊢
        rw [show 1 + (t + 1) - 1 = t + 1 from by omega, Nat.pow_succ]
        rw [show t + 1 - 1 = t from by omega] at b
        omega
      · rw [Nat.add_comm, Nat.pow_succ]; omega

theorem lz_bounds {x : Nat} (h0 : 0 < x) (h : x < 4294967296) : lz x < 32 ∧ 2147483648 ≤ x * 2 ^ lz x ∧ x * 2 ^ lz x < 4294967296 := by
  obtain ⟨a, b, c⟩ := bitLen_bounds x h0 (by omega)
  have hl := Lib.bitLen_le x 32 (by decide) (by omega)
  unfold lz
  refine ⟨by omega, ?_, ?_⟩
  · have := Nat.mul_le_mul_right (2 ^ (32 - Lib.bitLen x)) b
    rw [← Nat.pow_add, show Lib.bitLen x - 1 + (32 - Lib.bitLen x) = 31 from by omega] at this
    omega
  · have := Nat.mul_lt_mul_of_pos_right c (Nat.two_pow_pos (32 - Lib.bitLen x))
    rw [← Nat.pow_add, show Lib.bitLen x + (32 - Lib.bitLen x) = 32 from by omega] at this
    omega

theorem bits_LeadingZeros32 (x : Nat) (w : World) (h0 : 0 < x) (h1 : x < 4294967296) :
    Calls Tryz.prog 235 #[.int .u32 (x : Nat)] w fun e w' => e = .returned (.int .i64 (lz x : Nat)) ∧ w = w' := by
  have l := Lib.bitLen_le x 32 (by decide) (by omega)
  have e8 : (32 - (Lib.bitLen x : Int) + 9223372036854775808) % 18446744073709551616 - 9223372036854775808 = ((lz x : Nat) : Int) := by unfold lz; omega
  have E8 := Lib.hid e8; clear e8
  have hL := bits_Len32 (x : Int) w (by omega) (by omega)
  rw [Int.toNat_natCast] at hL
  go_enter Tryz.func235, Tryz.ntmps235
  go_wp2_with (go_at_call 203; refine hL.mono ?_; rintro e w' ⟨rfl, rfl⟩)
  go_ret
  exact ⟨ret_int (by rw [← E8.out]; omega), rfl⟩
end Go.Proofs.YtgihpfkjpfanmaaGreat


namespace Go.Proofs.YtgihpfkjpfanmaaGreat
open Go.RowKit

theorem norm_top {k lo top s m : Nat} (hm : m = lo + 4294967296 ^ k * top) (hlo : lo < 4294967296 ^ k) (hs : s < 32) (z2 : 2147483648 ≤ top * 2 ^ s) (z3 : top * 2 ^ s < 4294967296) :
    m * 2 ^ s < 4294967296 ^ (k + 1) ∧ 2147483648 * 4294967296 ^ k ≤ m * 2 ^ s := by
  have e3 : (4294967296 : Nat) = 2 ^ (32 - s) * 2 ^ s := by rw [← Nat.pow_add, show 32 - s + s = 32 from by omega]
  have h1 : top < 2 ^ (32 - s) := by
    apply Nat.lt_of_not_le; intro h
    have := Nat.mul_le_mul_right (2 ^ s) h
    omega
  have h2 := Nat.mul_le_mul_right (2 ^ s) (show top + 1 ≤ 2 ^ (32 - s) from h1)
  rw [← e3] at h2
  generalize hP : 4294967296 ^ k = P at *
  constructor
  · have h3 : m < P * (top + 1) := by rw [Nat.mul_add]; omega
    have h4 := Nat.mul_lt_mul_of_pos_right h3 (Nat.two_pow_pos s)
    have h5 := Nat.mul_le_mul_left P h2
    rw [Nat.pow_succ, hP]
    rw [Nat.mul_assoc] at h4
    omega
  · have h4 := Nat.mul_le_mul_right (2 ^ s) (show P * top ≤ m by omega)
    have h5 := Nat.mul_le_mul_left P z2
    rw [Nat.mul_assoc] at h4
    rw [Nat.mul_comm]
    omega

/-- The window of one digit. -/
theorem long_window {L : List Nat} {j K V : Nat} (sL : Small L) (hL : j + K + 1 ≤ L.length) (hV : V < 4294967296 ^ K) (hlt : val (L.drop (j + 1)) < V) :
    L = L.take j ++ (L.drop j).take (K + 1) ++ L.drop (j + K + 1) ∧ ((L.drop j).take (K + 1)).length = K + 1 ∧ Small ((L.drop j).take (K + 1)) ∧ val ((L.drop j).take (K + 1)) < V * 4294967296 ∧ val (L.drop (j + K + 1)) = 0 := by
  have e1 : L.drop j = (L.drop j).take (K + 1) ++ L.drop (j + K + 1) := by
    rw [show j + K + 1 = j + (K + 1) from by omega, ← List.drop_drop, List.take_append_drop]
  have h1 := val_drop_succ (l := L) (k := j) (by omega)
  have h2 := limb_lt sL j
  have h3 : val (L.drop j) < V * 4294967296 := by
    have := Nat.mul_le_mul_right 4294967296 (show val (L.drop (j + 1)) + 1 ≤ V from hlt)
    omega
  have h4 : V * 4294967296 ≤ 4294967296 ^ (K + 1) := by
    rw [Nat.pow_succ]; exact Nat.mul_le_mul_right _ (by omega)
  have h5 := congrArg val e1
  have h7 : ((L.drop j).take (K + 1)).length = K + 1 := by rw [List.length_take, List.length_drop]; omega
  rw [val_append, h7] at h5
  refine ⟨by rw [List.append_assoc, ← e1, List.take_append_drop], h7, (sL.drop j).take _, by omega, ?_⟩
  apply Nat.eq_zero_of_not_pos; intro h8
  have := Nat.mul_le_mul_left (4294967296 ^ (K + 1)) (show 1 ≤ val (L.drop (j + K + 1)) from h8)
  omega

theorem long_step {L r Q : List Nat} {j K V N : Nat} (hL : j + K + 1 ≤ L.length) (hLe : L = L.take j ++ (L.drop j).take (K + 1) ++ L.drop (j + K + 1)) (hX : ((L.drop j).take (K + 1)).length = K + 1) (h0 : val (L.drop (j + K + 1)) = 0) (hr : r.length = K + 1)
    (hrv : val r = val ((L.drop j).take (K + 1)) % V) (hQ : j < Q.length) (hv : val (Q.drop (j + 1)) * V * 4294967296 ^ (j + 1) + val L = N) :
    val ((Q.set j (val ((L.drop j).take (K + 1)) / V)).drop j) * V * 4294967296 ^ j + val (L.take j ++ r ++ L.drop (j + K + 1)) = N ∧ val ((L.take j ++ r ++ L.drop (j + K + 1)).drop j) = val r := by
  have hA : (L.take j).length = j := by rw [List.length_take]; omega
  constructor
  · rw [val_drop_set hQ]
    have e1 := congrArg val hLe
    have x1 : val ((L.drop j).take (K + 1) ++ L.drop (j + K + 1)) = val ((L.drop j).take (K + 1)) := by rw [val_append, h0, Nat.mul_zero, Nat.add_zero]
    have x2 : val (r ++ L.drop (j + K + 1)) = val r := by rw [val_append, h0, Nat.mul_zero, Nat.add_zero]
    rw [List.append_assoc, val_append, hA, x1] at e1
    rw [List.append_assoc, val_append, hA, x2]
    have e2 := Nat.div_add_mod' (val ((L.drop j).take (K + 1))) V
    rw [← hrv] at e2
    generalize val ((L.drop j).take (K + 1)) = x at *
    generalize x / V = d at e2 ⊢
    rw [← hv, e1, Nat.pow_succ, ← e2]
    generalize 4294967296 ^ j = p
    generalize val (Q.drop (j + 1)) = q
    rw [Nat.add_mul, Nat.add_mul, Nat.mul_add p, Nat.mul_comm p (d * V)]
    have : 4294967296 * q * V * p = q * V * (p * 4294967296) := by
      rw [Nat.mul_assoc 4294967296 q V, Nat.mul_assoc 4294967296, Nat.mul_comm 4294967296, Nat.mul_assoc (q * V)]
    omega
  · rw [List.append_assoc, List.drop_append_of_le_length (by omega), List.drop_of_length_le (by omega), List.nil_append, val_append, h0, Nat.mul_zero, Nat.add_zero]

theorem long_end {q V R n m s : Nat} (h : q * V + R = n * 2 ^ s) (hV : V = m * 2 ^ s) (hR : R < V) (_hm : 0 < m) : q = n / m ∧ R = n % m * 2 ^ s := by
  have hV0 : 0 < V := by omega
  have h1 : q = n * 2 ^ s / V := by rw [← h, Nat.mul_comm, Nat.mul_add_div hV0, Nat.div_eq_of_lt hR, Nat.add_zero]
  have h2 : R = n * 2 ^ s % V := by rw [← h, Nat.mul_comm, Nat.mul_add_mod, Nat.mod_eq_of_lt hR]
  refine ⟨?_, ?_⟩
  · rw [h1, hV, Nat.mul_div_mul_right _ _ (Nat.two_pow_pos s)]
  · rw [h2, hV, Nat.mul_mod_mul_right]

theorem long_start {L : List Nat} {dg K V n s : Nat} (hL : L.length = dg + (K + 1)) (hn : n < 4294967296 ^ (dg + K)) (hs : s < 32) (hv : val L = n * 2 ^ s) (hV : 2147483648 * 4294967296 ^ K ≤ V) : val (L.drop dg) < V := by
  have h1 := val_take_drop L dg (by omega)
  have h2 := Nat.mul_lt_mul_of_pos_right hn (Nat.two_pow_pos s)
  have h3 : 2 ^ s ≤ 2 ^ 31 := Nat.pow_le_pow_right (by decide) (by omega)
  rw [Nat.pow_add] at h2
  generalize 4294967296 ^ dg = p at *
  apply Nat.lt_of_lt_of_le _ hV
  apply Nat.lt_of_not_le; intro h
  have h4 := Nat.mul_le_mul_left p h
  have h5 := Nat.mul_le_mul_left (p * 4294967296 ^ K) h3
  have h6 : p * (2147483648 * 4294967296 ^ K) = p * 4294967296 ^ K * 2 ^ 31 := by rw [Nat.mul_comm 2147483648, Nat.mul_assoc]
  omega

theorem arr_set0 {w : World} {b i : Nat} {T : TypeId} {P : List Nat} (h : Arr w b T (u32s P)) (x : Nat) (v : Int) (hv : v = (x : Int)) : Arr (w.setCell ⟨b, i, none⟩ (.int .u32 v)) b T (u32s (P.set i x)) := by
  subst hv
  have := h.set i (.int .u32 (x : Nat))
  rwa [u32s_set] at this

theorem Touch.ext1 {w0 w w' : World} {b : Nat} (h : Ext w0 w) (t : Touch b (b + 1) w w') (hb : w0.heap.size ≤ b) : Ext w0 w' :=
  ⟨⟨t.os.trans h.below.os, t.tape.trans h.below.tape, t.output.trans h.below.output, by rw [t.size]; exact h.below.size, fun k hk => (t.block k (Or.inl (by omega))).trans (h.below.block k hk)⟩, Nat.le_trans h.drawn t.drawn⟩
theorem Arr.touch1 {w w' : World} {b b' : Nat} {T : TypeId} {vs : List Value} (h : Arr w b' T vs) (t : Touch b (b + 1) w w') (hb : b' ≠ b) : Arr w' b' T vs := by
  unfold Arr; rw [t.block b' (by omega)]; exact h

set_option maxHeartbeats 2000000 in
set_option maxRecDepth 100000 in
theorem nat_divideLong (w : World) (a b : Option Addr) (c c' n m : Nat) (ha : Raw w a (len n) c n) (hb : Raw w b (len m) c' m) (h2 : 2 ≤ len m) (hle : m ≤ n) (hs : len n < 1000000000) :
    Calls Tryz.prog 233 #[.slice a (len n) c, .slice b (len m) c'] w (NewNats (n / m) (n % m) w) := by
  have hlm := len_mono hle
  have la := ha.le
  have lb := hb.le
  obtain ⟨l, hl, hv, hB⟩ := id hb
  obtain ⟨pb, ob, rfl⟩ := hB.at (by omega)
  have hc := hB.cellAt (len m - 1) (by omega)
  have hx := limb_lt hB.small (len m - 1)
  have ht := top_ne_zero hB.small (by omega) (by rw [hv, hl])
  rw [hl] at ht
  obtain ⟨z1, z2, z3⟩ := lz_bounds (x := limb l (len m - 1)) (by omega) hx
  have hlz := bits_LeadingZeros32 (limb l (len m - 1)) w (by omega) hx
  have hmv : m = val (l.take (len m - 1)) + 4294967296 ^ (len m - 1) * limb l (len m - 1) := by
    have := val_take_succ (l := l) (k := len m - 1) (by omega)
    rw [show len m - 1 + 1 = l.length from by omega, List.take_length, hv] at this
    exact this
  have htl := val_take_lt hB.small (t := len m - 1) (by omega)
  have HM := Lib.hid hmv; have HL := Lib.hid hl; have HV := Lib.hid hv; have HTL := Lib.hid htl
  clear hmv hl hv htl
  generalize hS : lz (limb l (len m - 1)) = s at z1 z2 z3 hlz
  clear hS
  go_enter Tryz.func233, Tryz.ntmps233
  go_wp2_with fail
  refine hlz.mono ?_
  rintro e w' ⟨rfl, rfl⟩
  go_wp2_with fail
  refine (nat_shifted _ _ _ _ _ _ hb (by omega) z1).mono ?_
  rintro e w1 ⟨Y', rfl, hY', hYv, sY', hYa, hx1⟩
  go_wp2_with fail
  refine (nat_shifted _ _ _ _ _ _ (ha.ext hx1) hs z1).mono ?_
  rintro e w2 ⟨X0, rfl, hX0, hXv, sX0, hXa, hx2⟩
  have hdg : ∃ dg, len n + 1 = dg + len m := ⟨len n + 1 - len m, by omega⟩
  obtain ⟨dg, hdg⟩ := hdg
  go_wp2_with (at_make; refine wpList_make_one _ rfl _ _ 51 rfl 122 (.int .u32 0) 4 Tryz.underlying51 Tryz.info_u32 rfl _ _ dg rfl rfl (by omega) (by omega) (by omega) (by omega) ?_; intro w3 hw3 hx3 hz3)
  obtain ⟨nt1, nt2⟩ := norm_top HM.out HTL.out z1 z2 z3
  rw [show len m - 1 + 1 = len m from by omega] at nt1
  -- the divisor
  have hYt : val (Y'.take (len m)) = m * 2 ^ s := by rw [val_take_of_le sY' (by omega) (by rw [hYv]; exact len_le.2 nt1), hYv]
  have hYl : (Y'.take (len m)).length = len m := by rw [List.length_take]; omega
  have hYtop : 2147483648 ≤ limb (Y'.take (len m)) (len m - 1) := by
    have h5 := val_take_succ (l := Y'.take (len m)) (k := len m - 1) (by omega)
    rw [show len m - 1 + 1 = (Y'.take (len m)).length from by omega, List.take_length, hYt] at h5
    have h6 := val_take_lt (sY'.take (len m)) (t := len m - 1) (by omega)
    apply Nat.le_of_lt_succ
    apply Nat.lt_of_not_le; intro h7
    have h8 := Nat.mul_le_mul_left (4294967296 ^ (len m - 1)) (show limb (Y'.take (len m)) (len m - 1) + 1 ≤ 2147483648 by omega)
    rw [Nat.mul_add, Nat.mul_one, Nat.mul_comm _ 2147483648] at h8
    omega
  have hst := long_start (L := X0) (dg := dg) (K := len m - 1) (n := n) (s := s) (V := m * 2 ^ s) (by omega) (by rw [show dg + (len m - 1) = len n from by omega]; exact lt_pow_len n) z1 hXv nt2
  have hv12 := hYa.lt
  have hv23 := hXa.lt
  have a1 : Arr w3 w.heap.size 122 (u32s Y') := (hYa.ext hx2).ext hx3
  have a2 : Arr w3 w1.heap.size 122 (u32s X0) := hXa.ext hx3
  have a3 : Arr w3 w2.heap.size 122 (u32s (List.replicate dg 0)) := by have := hw3.out; rwa [u32s_replicate] at this
  have hE : Ext w w3 := (hx1.trans hx2).trans hx3
  have HYT := Lib.hid hYt; have HYL := Lib.hid hYl; have HY' := Lib.hid hY'; have HYV := Lib.hid hYv; have HX0 := Lib.hid hX0; have HXV := Lib.hid hXv
  have HDG := Lib.hid hdg
  have A1 := Lib.hid a1; have A2 := Lib.hid a2; have A3 := Lib.hid a3
  have HNT := Lib.hid nt1; have HST := Lib.hid hst
  clear hYt hYl hY' hYv hX0 hXv hdg a1 a2 a3 nt1 nt2 hst hw3 hz3 hYa hXa hlz hc
  have hdb : dg ≤ 1000000000 := by have := HDG.out; omega
  go_loopw [36] (fun i wr => ∃ (k t : Nat) (Q L : List Nat), Hid (k + t = dg) ∧ Hid (Q.length = dg) ∧ Small Q ∧ Hid (L.length = dg + len m) ∧ Small L ∧ Hid (val (Q.drop t) * (m * 2 ^ s) * 4294967296 ^ t + val L = n * 2 ^ s) ∧ Hid (val (L.drop t) < m * 2 ^ s) ∧ Hid (Arr wr w.heap.size 122 (u32s Y')) ∧ Hid (Arr wr w1.heap.size 122 (u32s L)) ∧ Hid (Arr wr w2.heap.size 122 (u32s Q)) ∧ Ext w wr ∧ i = .int .i64 k) (fun i _ => dg - (intOf i).toNat)
  case atStart =>
    refine ⟨0, dg, List.replicate dg 0, X0, (show _ = _ by omega), (show _ = _ by simp), Small.replicate _, (show _ = _ by have := HX0.out; have := HDG.out; omega), sX0, ?_, HST, A1, A2, A3, hE, rfl⟩
    show _ = _
    rw [List.drop_of_length_le (by simp), HXV.out]; simp [val]
  case round =>
    obtain ⟨k, t, Q, L, hkt, hQ, sQ, hL, sL, hval, hlt, b1, b2, b3, hext, rfl⟩ := hrel
    by_cases h0 : k < dg
    · have hj : ∃ j, t = j + 1 := ⟨t - 1, by have := hkt.out; omega⟩
      obtain ⟨j, rfl⟩ := hj
      have hkj : (dg : Int) - 1 - (k : Int) = (j : Int) := by have := hkt.out; omega
      have hjb : j < dg := by have := hkt.out; omega
      obtain ⟨w1e, w2e, w3e, w4e, w5e⟩ := long_window (L := L) (j := j) (K := len m) (V := m * 2 ^ s) sL (by rw [hL.out]; omega) HNT.out hlt.out
      have hAl : (L.take j).length = j := by rw [List.length_take, hL.out]; omega
      have b2' : Arr wr w1.heap.size 122 (u32s (L.take j ++ (L.drop j).take (len m + 1) ++ L.drop (j + len m + 1))) := by rw [← w1e]; exact b2.out
      have hdig := nat_nextDigit wr w1.heap.size w.heap.size (dg + len m - j) (len m + 1) (len m) (L.take j) ((L.drop j).take (len m + 1)) (L.drop (j + len m + 1)) (Y'.take (len m)) (by omega) b2' w2e w3e (by omega) (by omega)
        ((b1.out.limbs sY' (by rw [HY'.out]; omega)).take (len m) (by rw [HY'.out]; omega) |> fun h => by rw [HY'.out] at h; exact h) HYL.out h2 hYtop (by rw [HYT.out]; exact w4e)
      rw [hAl, HYT.out] at hdig
      have hqb : val ((L.drop j).take (len m + 1)) / (m * 2 ^ s) < 4294967296 := by
        rw [Nat.div_lt_iff_lt_mul (by omega), Nat.mul_comm]; exact w4e
      have hVp : 0 < m * 2 ^ s := by omega
      have hstep := fun r (hr : r.length = len m + 1) hrv => long_step (L := L) (r := r) (Q := Q) (j := j) (K := len m) (V := m * 2 ^ s) (N := n * 2 ^ s) (by rw [hL.out]; omega) w1e w2e w5e hr hrv (by rw [hQ.out]; omega) hval.out
      have HS := Lib.hid hstep; have HD := Lib.hid hdig; have HW1 := Lib.hid w1e; have HAL := Lib.hid hAl
      clear hstep hdig w1e w2e w3e w4e w5e hAl b2'
      have hst3 : wr.cell? ⟨w2.heap.size, j, none⟩ = some (.int .u32 (limb Q j : Nat)) := by rw [b3.out.cell, u32s_get _ _ (by rw [hQ.out]; omega)]
      go_wp2_with fail
      rw [show j + len m + 1 - j = len m + 1 from by omega]
      (with_reducible refine HD.out.mono ?_)
      rintro e w5 ⟨r, rfl, hr, sr, hrv, harr, htch⟩
      have hs5 : w5.cell? ⟨w2.heap.size, j, none⟩ = some (.int .u32 (limb Q j : Nat)) := by rw [cell_touch htch (p := ⟨w2.heap.size, j, none⟩) (by simp only; omega)]; exact hst3
      have c1 := b1.out.touch1 htch (by omega)
      have c3 := b3.out.touch1 htch (by omega)
      have hf5 := c3.frozen j
      obtain ⟨k1, k2⟩ := HS.out r hr hrv
      have K1 := Lib.hid k1; have K2 := Lib.hid k2; have C1 := Lib.hid c1; have HR := Lib.hid hr; have HRV := Lib.hid hrv
      have C3 := Lib.hid (fun v hv => arr_set0 (i := j) c3 (val ((L.drop j).take (len m + 1)) / (m * 2 ^ s)) v hv)
      have HARR := Lib.hid harr
      have hx5 := Touch.ext1 hext htch hx1.size
      clear k1 k2 c1 c3 hst3 hr hrv harr HD HS
      go_wp2_with fail
      refine ⟨⟨k + 1, j, Q.set j (val ((L.drop j).take (len m + 1)) / (m * 2 ^ s)), L.take j ++ r ++ L.drop (j + len m + 1), (show _ = _ by have := hkt.out; omega), (show _ = _ by simp [hQ.out]), sQ.set _ _ hqb, ?_, ((sL.take j).append sr).append (sL.drop _), K1, ?_, (show Arr _ _ _ _ from C1.out.other _ _ (by simp only; omega)), (show Arr _ _ _ _ from HARR.out.other _ _ (by simp only; omega)), C3.out _ rfl, hx5.setCell (by simp only; omega) _, by go_num⟩, ?_⟩
      · show _ = _
        rw [List.length_append, List.length_append, HAL.out, HR.out, List.length_drop, hL.out]; omega
      · show _ < _
        rw [K2.out, HRV.out]; exact Nat.mod_lt _ hVp
      · simp [intOf]; omega
    · obtain rfl : k = dg := by have := hkt.out; omega
      obtain rfl : t = 0 := by have := hkt.out; omega
      have hv1 := hval.out
      rw [List.drop_zero, Nat.pow_zero, Nat.mul_one] at hv1
      have hl1 := hlt.out
      rw [List.drop_zero] at hl1
      obtain ⟨q1, q2⟩ := long_end hv1 rfl hl1 (len_pos.1 (by omega))
      have hLk : val (L.take (len m)) = val L := val_take_of_le sL (by rw [hL.out]; omega) (len_le.2 (Nat.lt_trans hl1 HNT.out))
      have rawR : Raw wr (some ⟨w1.heap.size, 0, none⟩) (len m) (k + len m) (n % m * 2 ^ s) := by
        have h3 := (b2.out.limbs sL (by rw [hL.out]; omega)).take (len m) (by rw [hL.out]; omega)
        rw [hL.out] at h3
        exact ⟨L.take (len m), by rw [List.length_take, hL.out]; omega, by rw [hLk, q2], h3⟩
      have rawQ : Raw wr (some ⟨w2.heap.size, 0, none⟩) k k (n / m) := by
        have h3 := b3.out.limbs sQ (by rw [hQ.out]; omega)
        rw [hQ.out] at h3
        exact ⟨Q, hQ.out, q1, h3⟩
      have RR := Lib.hid rawR; have RQ := Lib.hid rawQ
      clear hv1 hl1 q1 q2 hLk rawR rawQ
      go_wp2_with fail
      refine (nat_ShiftRight _ _ _ _ _ _ RR.out z1).mono ?_
      rintro e w6 ⟨a6, c6, rfl, hr6, hf6, hx6⟩
      rw [Nat.mul_div_cancel _ (Nat.two_pow_pos s)] at hr6 ⊢
      go_wp2_with fail
      refine (nat_cut _ _ _ _ _ (RQ.out.ext hx6)).mono ?_
      rintro e w7 ⟨rfl, rfl⟩
      go_wp2_with fail
      go_ret2
      exact ⟨_, _, a6, c6, rfl, (RQ.out.ext hx6).cut, Fr.some (by omega), hr6, hf6.mono hext.size, hext.trans hx6⟩
end Go.Proofs.YtgihpfkjpfanmaaGreat


namespace Go.Proofs.YtgihpfkjpfanmaaGreat
open Go.RowKit

set_option maxHeartbeats 1000000 in
set_option maxRecDepth 100000 in
theorem nat_DivMod (w : World) (a b : Option Addr) (k k' c c' n m : Nat) (ha : Raw w a k c n) (hb : Raw w b k' c' m) (hm : 0 < m) (hs : len n < 1000000000) :
    Calls Tryz.prog 220 #[.slice a k c, .slice b k' c'] w (NewNatsOk (n / m) (n % m) w) := by
  have ha' := ha.cut
  have hb' := hb.cut
  have pm := len_pos.2 hm
  have hm' : (((len m : Nat) : Int) == 0) = false := by rw [beq_eq_false_iff_ne]; omega
  go_enter Tryz.func220, Tryz.ntmps220
  go_wp2_with fail
  refine (nat_cut _ _ _ _ _ ha).mono ?_
  rintro e w' ⟨rfl, rfl⟩
  go_wp2_with fail
  refine (nat_cut _ _ _ _ _ hb).mono ?_
  rintro e w' ⟨rfl, rfl⟩
  go_wp2_with fail
  refine (nat_Compare _ _ _ _ _ _ _ _ _ ha' hb').mono ?_
  rintro e w0 ⟨rfl, hq0⟩
  have ha0 := ha'.ext hq0.ext
  have hb0 := hb'.ext hq0.ext
  by_cases hlt : n < m
  · have hcmp : cmpN n m = -1 := by unfold cmpN; rw [if_pos hlt]
    rw [hcmp]; clear hcmp
    go_wp2_with fail
    refine (nat_Trim _ _ _ _ _ ha0).mono ?_
    rintro e w1 ⟨a1, c1, rfl, hr1, hf1, hx1⟩
    go_wp2
    go_ret3
    rw [Nat.div_eq_of_lt hlt, Nat.mod_eq_of_lt hlt]
    exact ⟨none, 0, a1, c1, rfl, Raw.nil _, Fr.none _, hr1, hf1.mono hq0.ext.size, hq0.ext.trans hx1⟩
  · have hcmp : 0 ≤ cmpN n m := by unfold cmpN; rw [if_neg (by omega)]; split <;> decide
    by_cases h2 : len n ≤ 2
    · have hm2 : len m ≤ 2 := Nat.le_trans (len_mono (by omega)) h2
      have hn64 := len_le_two.1 h2
      have hm64 := len_le_two.1 hm2
      have hq : n / m ≤ n := Nat.div_le_self _ _
      have hr : n % m < m := Nat.mod_lt _ hm
      go_wp2_with fail
      refine (nat_word _ _ _ _ _ ha0 h2).mono ?_
      rintro e w' ⟨rfl, rfl⟩
      go_wp2_with fail
      refine (nat_word _ _ _ _ _ hb0 hm2).mono ?_
      rintro e w' ⟨rfl, rfl⟩
      have hmi : ((m : Nat) : Int) ≠ 0 := by omega
      have hmb : (((m : Nat) : Int) == 0) = false := by rw [beq_eq_false_iff_ne]; omega
      have h1m : (1 : Int) ≤ (m : Int) := by omega
      have hqb : n / m < 18446744073709551616 := Nat.lt_of_le_of_lt hq hn64
      have hrb : n % m < 18446744073709551616 := Nat.lt_trans hr hm64
      have e1 : IntKind.u64.wrap ((n : Int) / (m : Int)) = ((n / m : Nat) : Int) := by
        rw [IntKind.wrap_u64, ← Int.natCast_ediv]
        generalize n / m = z at *
        omega
      have e2 : (n : Int).tmod (m : Int) = ((n % m : Nat) : Int) := by
        rw [Int.tmod_eq_emod_of_nonneg (by omega), Int.natCast_emod]
      generalize hqq : n / m = qq at *
      generalize hrr : n % m = rr at *
      have HQ := Lib.hid hqq; have HR := Lib.hid hrr; clear hqq hrr
      have tok1 : True := trivial
      go_wp2_with fail
      go_region_with (first
        | (go_at_call 211; have _t := tok1; refine (nat_FromUint64 _ _ (by assumption)).mono ?_; rintro e w1 ⟨a1, c1, rfl, hr1, hf1, hx1⟩; clear tok1 _t)
        | (go_at_call 211; refine (nat_FromUint64 _ _ (by assumption)).mono ?_; rintro e w2 ⟨a2, c2, rfl, hr2, hf2, hx2⟩))
      all_goals go_wp2
      all_goals go_ret3
      all_goals exact ⟨a1, c1, a2, c2, rfl, hr1.ext hx2, hf1.mono hq0.ext.size, hr2, hf2.mono (Nat.le_trans hq0.ext.size hx1.size), (hq0.ext.drew.trans hx1).trans hx2⟩
    · have h2' : ¬ len n ≤ 2 := h2
      by_cases h1 : len m = 1
      · have h1' : (((len m : Nat) : Int) == 1) = true := by simp [h1]
        have hml := len_le_one.1 (Nat.le_of_eq h1)
        obtain ⟨l, hl, hv, hB⟩ := hb0
        obtain ⟨pb, ob, rfl⟩ := hB.at (by omega)
        have hc := hB.cellAt 0 (by omega)
        have e0 : limb l 0 = m := by
          rw [h1] at hl
          match l, hl with
          | [x], _ => simpa [limb, val] using hv
        rw [e0, Nat.add_zero] at hc
        have HL := Lib.hid hl; have HV := Lib.hid hv; have H1 := Lib.hid h1; have E0 := Lib.hid e0; clear hl hv h1 e0
        have h0m : (0 : Int) < (len m : Int) := by omega
        go_wp2_with fail
        refine (nat_divideByLimb _ _ _ _ _ ha0 hm hml).mono ?_
        rintro e w1 ⟨a1, c1, a2, c2, rfl, hr1, hf1, hr2, hf2, hx1⟩
        go_wp2
        go_ret3
        exact ⟨a1, c1, a2, c2, rfl, hr1, hf1.mono hq0.ext.size, hr2, hf2.mono hq0.ext.size, hq0.ext.trans hx1⟩
      · have h1' : (((len m : Nat) : Int) == 1) = false := by rw [beq_eq_false_iff_ne]; omega
        go_wp2_with fail
        refine (nat_divideLong _ _ _ _ _ _ _ ha0 hb0 (by omega) (by omega) hs).mono ?_
        rintro e w1 ⟨a1, c1, a2, c2, rfl, hr1, hf1, hr2, hf2, hx1⟩
        go_wp2
        go_ret3
        exact ⟨a1, c1, a2, c2, rfl, hr1, hf1.mono hq0.ext.size, hr2, hf2.mono hq0.ext.size, hq0.ext.trans hx1⟩
end Go.Proofs.YtgihpfkjpfanmaaGreat


namespace Go.Proofs.YtgihpfkjpfanmaaGreat
open Go.RowKit

theorem Touch.one {lo hi b : Nat} (w : World) (h1 : lo ≤ b) (h2 : b < hi) (i : Nat) (v : Value) : Touch lo hi w (w.setCell ⟨b, i, none⟩ v) :=
  (Touch.refl _ _ _).setCell h1 h2 _
theorem Touch.two {lo hi b : Nat} (w : World) (h1 : lo ≤ b) (h2 : b < hi) (v0 v1 : Value) : Touch lo hi w ((w.setCell ⟨b, 0, none⟩ v0).setCell ⟨b, 1, none⟩ v1) :=
  ((Touch.refl _ _ _).setCell h1 h2 _).setCell h1 h2 _
theorem Touch.three {lo hi b : Nat} (w : World) (h1 : lo ≤ b) (h2 : b < hi) (v0 v1 v2 : Value) : Touch lo hi w (((w.setCell ⟨b, 0, none⟩ v0).setCell ⟨b, 1, none⟩ v1).setCell ⟨b, 2, none⟩ v2) :=
  (((Touch.refl _ _ _).setCell h1 h2 _).setCell h1 h2 _).setCell h1 h2 _
theorem Touch.trans {lo hi : Nat} {a b c : World} (h : Touch lo hi a b) (k : Touch lo hi b c) : Touch lo hi a c :=
  ⟨k.os.trans h.os, k.tape.trans h.tape, k.output.trans h.output, Nat.le_trans h.drawn k.drawn, k.size.trans h.size, fun i hi => (k.block i hi).trans (h.block i hi)⟩

theorem boxes1 (w : World) (T0 : TypeId) (l0 : List Value) : ∃ W : World, W = (w.alloc (.cells l0.toArray T0)) ∧ Ext w W ∧ Hid (W.heap.size = w.heap.size + 1) ∧ Arr W (w.heap.size) T0 l0 := by
  exact ⟨_, rfl, (Ext.refl _).alloc _, (show _ = _ by simp), Arr.alloc _ _ _⟩

theorem boxes2 (w : World) (T0 : TypeId) (l0 : List Value) (T1 : TypeId) (l1 : List Value) : ∃ W : World, W = ((w.alloc (.cells l0.toArray T0)).alloc (.cells l1.toArray T1)) ∧ Ext w W ∧ Hid (W.heap.size = w.heap.size + 2) ∧ Arr W (w.heap.size) T0 l0 ∧ Arr W (w.heap.size + 1) T1 l1 := by
  obtain ⟨V, hV, x0, z0, a0⟩ := boxes1 w T0 l0
  refine ⟨_, rfl, ?_⟩
  rw [← hV]
  have z1 := z0.out
  have b := Arr.alloc V T1 l1
  rw [z1] at b
  exact ⟨x0.alloc _, (show _ = _ by simp [z1]), a0.ext ((Ext.refl _).alloc _), b⟩

theorem boxes3 (w : World) (T0 : TypeId) (l0 : List Value) (T1 : TypeId) (l1 : List Value) (T2 : TypeId) (l2 : List Value) : ∃ W : World, W = (((w.alloc (.cells l0.toArray T0)).alloc (.cells l1.toArray T1)).alloc (.cells l2.toArray T2)) ∧ Ext w W ∧ Hid (W.heap.size = w.heap.size + 3) ∧ Arr W (w.heap.size) T0 l0 ∧ Arr W (w.heap.size + 1) T1 l1 ∧ Arr W (w.heap.size + 2) T2 l2 := by
  obtain ⟨V, hV, x0, z0, a0, a1⟩ := boxes2 w T0 l0 T1 l1
  refine ⟨_, rfl, ?_⟩
  rw [← hV]
  have z1 := z0.out
  have b := Arr.alloc V T2 l2
  rw [z1] at b
  exact ⟨x0.alloc _, (show _ = _ by simp [z1]), a0.ext ((Ext.refl _).alloc _), a1.ext ((Ext.refl _).alloc _), b⟩

theorem boxes4 (w : World) (T0 : TypeId) (l0 : List Value) (T1 : TypeId) (l1 : List Value) (T2 : TypeId) (l2 : List Value) (T3 : TypeId) (l3 : List Value) : ∃ W : World, W = ((((w.alloc (.cells l0.toArray T0)).alloc (.cells l1.toArray T1)).alloc (.cells l2.toArray T2)).alloc (.cells l3.toArray T3)) ∧ Ext w W ∧ Hid (W.heap.size = w.heap.size + 4) ∧ Arr W (w.heap.size) T0 l0 ∧ Arr W (w.heap.size + 1) T1 l1 ∧ Arr W (w.heap.size + 2) T2 l2 ∧ Arr W (w.heap.size + 3) T3 l3 := by
  obtain ⟨V, hV, x0, z0, a0, a1, a2⟩ := boxes3 w T0 l0 T1 l1 T2 l2
  refine ⟨_, rfl, ?_⟩
  rw [← hV]
  have z1 := z0.out
  have b := Arr.alloc V T3 l3
  rw [z1] at b
  exact ⟨x0.alloc _, (show _ = _ by simp [z1]), a0.ext ((Ext.refl _).alloc _), a1.ext ((Ext.refl _).alloc _), a2.ext ((Ext.refl _).alloc _), b⟩

end Go.Proofs.YtgihpfkjpfanmaaGreat


namespace Go.Proofs.YtgihpfkjpfanmaaGreat

/-- The state of the simulated algorithm: two successive remainders of X and Y, and their cofactors. -/
structure Leh (X Y : Nat) (s : Int) (x y u1 u2 v1 v2 : Nat) : Prop where
  sg : s = 1 ∨ s = -1
  ex : (x : Int) = s * (u1 * X - v1 * Y)
  ey : (y : Int) = s * (v2 * Y - u2 * X)
  det : (u1 : Int) * v2 - u2 * v1 = s
  le : y ≤ x
  uv : u2 ≤ v2
  sum : u1 + u2 ≤ v1 + v2
  pos : 1 ≤ v2

theorem Leh.start {X Y : Nat} (h : Y ≤ X) : Leh X Y 1 X Y 1 0 0 1 :=
  ⟨Or.inl rfl, by simp, by simp, by simp, h, by omega, by omega, by omega⟩

theorem Leh.big {X Y : Nat} {s : Int} {x y u1 u2 v1 v2 : Nat} (h : Leh X Y s x y u1 u2 v1 v2) : v2 * x + v1 * y = X ∧ u2 * x + u1 * y = Y := by
  obtain ⟨hs, ex, ey, det, -, -, -, -⟩ := h
  constructor
  · apply Int.ofNat.inj
    show ((v2 * x + v1 * y : Nat) : Int) = (X : Int)
    push_cast
    rw [ex, ey]
    rcases hs with rfl | rfl <;> grind
  · apply Int.ofNat.inj
    show ((u2 * x + u1 * y : Nat) : Int) = (Y : Int)
    push_cast
    rw [ex, ey]
    rcases hs with rfl | rfl <;> grind

theorem Leh.step {X Y : Nat} {s : Int} {x y u1 u2 v1 v2 : Nat} (h : Leh X Y s x y u1 u2 v1 v2) (h0 : 0 < y) : Leh X Y (-s) y (x % y) u2 (u1 + x / y * u2) v2 (v1 + x / y * v2) := by
  have hm : (x : Int) = (x / y : Nat) * y + (x % y : Nat) := by rw [← Int.natCast_mul, ← Int.natCast_add, Nat.div_add_mod']
  have hq : 1 ≤ x / y := (Nat.le_div_iff_mul_le h0).2 (by have := h.le; omega)
  have hr := Nat.mod_lt x h0
  obtain ⟨hs, ex, ey, det, -, uv, sum, pos⟩ := h
  generalize x / y = q at *
  generalize x % y = r at *
  have h1 : u2 * (q - 1) ≤ v2 * (q - 1) := Nat.mul_le_mul_right _ uv
  obtain ⟨k, rfl⟩ : ∃ k, q = k + 1 := ⟨q - 1, by omega⟩
  simp only [Nat.add_sub_cancel] at h1
  rw [Nat.mul_comm u2, Nat.mul_comm v2] at h1
  refine ⟨by omega, ?_, ?_, ?_, by omega, ?_, ?_, ?_⟩
  · rw [ey]; grind
  · have e : (r : Int) = x - ((k + 1 : Nat) : Int) * y := by omega
    rw [e, ex, ey]; push_cast; grind
  · push_cast; grind
  · rw [Nat.add_mul, Nat.add_mul, Nat.one_mul, Nat.one_mul]; omega
  · rw [Nat.add_mul, Nat.add_mul, Nat.one_mul, Nat.one_mul]; omega
  · rw [Nat.add_mul, Nat.one_mul]; omega

/-- What the cofactors make of the numbers themselves. -/
structure LehOut (a b : Nat) (even : Bool) (u0 v0 u1 v1 A B : Nat) : Prop where
  fst : if even then A + v0 * b = u0 * a else A + u0 * a = v0 * b
  snd : if even then B + u1 * a = v1 * b else B + v1 * b = u1 * a
  le : B ≤ A
  ea : a = v1 * A + v0 * B
  eb : b = u1 * A + u0 * B
  pos : 1 ≤ v1

theorem prod_le {x y E a1 : Int} (hx : 0 ≤ x) (hxy : x ≤ y) (ha : 0 ≤ a1) (hE : a1 ≤ E) : 0 ≤ x * a1 ∧ x * a1 ≤ y * E :=
  ⟨Int.mul_nonneg hx ha, Int.mul_le_mul hxy hE ha (by omega)⟩

theorem Leh.out {X Y a b E a1 b1 : Nat} {s : Int} {x y u1 u2 v1 v2 : Nat} (h : Leh X Y s x y u1 u2 v1 v2) (ha : a = X * E + a1) (hb : b = Y * E + b1) (ha1 : a1 < E) (hb1 : b1 < E)
    (c1 : v2 ≤ y) (c2 : v1 + v2 ≤ x - y) : ∃ A B, LehOut a b (decide (s = 1)) u1 v1 u2 v2 A B := by
  obtain ⟨hs, ex, ey, det, le, uv, sum, pos⟩ := h
  have ha' : (a : Int) = X * E + a1 := by exact_mod_cast ha
  have hb' : (b : Int) = Y * E + b1 := by exact_mod_cast hb
  have p1 := prod_le (x := (u2 : Int)) (y := v2) (E := E) (a1 := a1) (by omega) (by omega) (by omega) (by omega)
  have p2 := prod_le (x := (v2 : Int)) (y := v2) (E := E) (a1 := b1) (by omega) (by omega) (by omega) (by omega)
  have p3 := prod_le (x := ((u1 + u2 : Nat) : Int)) (y := ((v1 + v2 : Nat) : Int)) (E := E) (a1 := a1) (by omega) (by omega) (by omega) (by omega)
  have p4 := prod_le (x := ((v1 + v2 : Nat) : Int)) (y := ((v1 + v2 : Nat) : Int)) (E := E) (a1 := b1) (by omega) (by omega) (by omega) (by omega)
  have q1 : (v2 : Int) * E ≤ y * E := Int.mul_le_mul_of_nonneg_right (by omega) (by omega)
  have q2 : ((v1 + v2 : Nat) : Int) * E ≤ (x - y) * E := Int.mul_le_mul_of_nonneg_right (by omega) (by omega)
  have eB : s * (v2 * b - u2 * a) = y * E + s * (v2 * b1 - u2 * a1) := by rw [ha', hb', ey]; grind
  have eD : s * (u1 * a - v1 * b) - s * (v2 * b - u2 * a) = (x - y) * E + s * (((u1 + u2 : Nat) : Int) * a1 - ((v1 + v2 : Nat) : Int) * b1) := by rw [ha', hb', ex, ey]; push_cast; grind
  have hB : 0 ≤ s * (v2 * b - u2 * a) := by
    rw [eB]; rcases hs with rfl | rfl <;> omega
  have hD : 0 ≤ s * (u1 * a - v1 * b) - s * (v2 * b - u2 * a) := by
    rw [eD]; rcases hs with rfl | rfl <;> omega
  obtain ⟨B, eB'⟩ := Int.eq_ofNat_of_zero_le hB
  obtain ⟨A, eA'⟩ := Int.eq_ofNat_of_zero_le (show 0 ≤ s * (u1 * a - v1 * b) by omega)
  refine ⟨A, B, ?_, ?_, by omega, ?_, ?_, pos⟩
  · rcases hs with rfl | rfl
    · rw [if_pos (by decide)]
      apply Int.ofNat.inj
      show ((A + v1 * b : Nat) : Int) = ((u1 * a : Nat) : Int)
      push_cast; grind
    · rw [if_neg (by decide)]
      apply Int.ofNat.inj
      show ((A + u1 * a : Nat) : Int) = ((v1 * b : Nat) : Int)
      push_cast; grind
  · rcases hs with rfl | rfl
    · rw [if_pos (by decide)]
      apply Int.ofNat.inj
      show ((B + u2 * a : Nat) : Int) = ((v2 * b : Nat) : Int)
      push_cast; grind
    · rw [if_neg (by decide)]
      apply Int.ofNat.inj
      show ((B + v2 * b : Nat) : Int) = ((u2 * a : Nat) : Int)
      push_cast; grind
  · apply Int.ofNat.inj
    show ((a : Nat) : Int) = ((v2 * A + v1 * B : Nat) : Int)
    push_cast
    rw [← eA', ← eB']
    rcases hs with rfl | rfl <;> grind
  · apply Int.ofNat.inj
    show ((b : Nat) : Int) = ((u2 * A + u1 * B : Nat) : Int)
    push_cast
    rw [← eA', ← eB']
    rcases hs with rfl | rfl <;> grind

theorem LehOut.gcd {a b : Nat} {even : Bool} {u0 v0 u1 v1 A B : Nat} (h : LehOut a b even u0 v0 u1 v1 A B) : Nat.gcd A B = Nat.gcd a b := by
  obtain ⟨h1, h2, -, ea, eb, -⟩ := h
  apply Nat.dvd_antisymm
  · have d1 := Nat.gcd_dvd_left A B
    have d2 := Nat.gcd_dvd_right A B
    apply Nat.dvd_gcd
    · rw [ea]; exact Nat.dvd_add (Nat.dvd_mul_left_of_dvd d1 _) (Nat.dvd_mul_left_of_dvd d2 _)
    · rw [eb]; exact Nat.dvd_add (Nat.dvd_mul_left_of_dvd d1 _) (Nat.dvd_mul_left_of_dvd d2 _)
  · have d1 := Nat.gcd_dvd_left a b
    have d2 := Nat.gcd_dvd_right a b
    cases even
    · simp only [Bool.false_eq_true, if_false] at h1 h2
      apply Nat.dvd_gcd
      · exact (Nat.dvd_add_left (Nat.dvd_mul_left_of_dvd d1 u0)).1 (by rw [h1]; exact Nat.dvd_mul_left_of_dvd d2 _)
      · exact (Nat.dvd_add_left (Nat.dvd_mul_left_of_dvd d2 v1)).1 (by rw [h2]; exact Nat.dvd_mul_left_of_dvd d1 _)
    · simp only [if_true] at h1 h2
      apply Nat.dvd_gcd
      · exact (Nat.dvd_add_left (Nat.dvd_mul_left_of_dvd d2 v0)).1 (by rw [h1]; exact Nat.dvd_mul_left_of_dvd d1 _)
      · exact (Nat.dvd_add_left (Nat.dvd_mul_left_of_dvd d1 u1)).1 (by rw [h2]; exact Nat.dvd_mul_left_of_dvd d2 _)

/-- The numbers fall. -/
theorem LehOut.less {a b : Nat} {even : Bool} {u0 v0 u1 v1 A B : Nat} (h : LehOut a b even u0 v0 u1 v1 A B) (h0 : v0 ≠ 0) (hb : 0 < b) : A + B < a + b := by
  have := h.ea
  have h1 : A ≤ v1 * A := Nat.le_mul_of_pos_left _ h.pos
  have h2 : B ≤ v0 * B := Nat.le_mul_of_pos_left _ (by omega)
  omega

end Go.Proofs.YtgihpfkjpfanmaaGreat
