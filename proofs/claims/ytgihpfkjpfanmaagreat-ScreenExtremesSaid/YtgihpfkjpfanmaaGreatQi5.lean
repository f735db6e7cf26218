/- Texts of the proof: NatW, NatH, NatG, Int1, Int2, Rat1. -/
import Derived.Test.YtgihpfkjpfanmaaGreatChecked
import Derived.Lib.Strings
import Derived.Lib.Slices
import Derived.Lib.Small
import Derived.Lib.Walk
import Derived.Lib.BitFns
import Derived.KernelRfl
import Derived.WalkKit
import Derived.WalkSpells
import Derived.Sort.Grow
import Derived.Lib.Hide
import Derived.Laws.CopyOwn
import Derived.Laws.BitsAllLaws
import Derived.Deep.QuietTactic
import Derived.BigQuiet
import Derived.Test.YtgihpfkjpfanmaaGreatRows
import Derived.WalkLawsBesides
import Derived.Deep.RegionWith
import Derived.Deep.RegionHeld3
import Derived.Deep.DeepCutAuto
import Derived.Deep.CutBlock
import Derived.IntWalk
import Derived.Deep.LoopGhost
import Derived.Test.YtgihpfkjpfanmaaGreatQi1
import Derived.Test.YtgihpfkjpfanmaaGreatQi2
import Derived.Test.YtgihpfkjpfanmaaGreatQi3
import Derived.Test.YtgihpfkjpfanmaaGreatQi4
namespace Go.Proofs.YtgihpfkjpfanmaaGreat
open Go.RowKit

theorem nat_window_limb (w : World) (p : Addr) (a : Option Addr) (k c i : Nat) (l : List Nat) (hp : w.cell? p = some (.slice a k c)) (hl : l.length = k) (h : Limbs w a c l) :
    Calls Tryz.prog 240 #[.int .i64 (i : Nat), .pointer (some p)] w fun e w' => e = .returned (.int .u64 (limb l i : Nat)) ∧ w = w' := by
  have h1 := h.le
  have h2 := h.short
  by_cases hi : i < k
  · obtain ⟨b, o, rfl⟩ := h.at (by omega)
    have hc := h.cellAt i (by omega)
    have hx := limb_lt h.small i
    have HL := Lib.hid hl; clear hl
    go_enter Tryz.func240, Tryz.ntmps240
    go_wp2
    go_ret
    exact ⟨rfl, rfl⟩
  · have HZ := Lib.hid (limb_ge (l := l) (i := i) (by omega))
    have HL := Lib.hid hl; clear hl
    go_enter Tryz.func240, Tryz.ntmps240
    go_wp2
    go_ret
    exact ⟨ret_int (by rw [HZ.out]; rfl), rfl⟩

/-- The upper 64 binary digits. -/
theorem win_val {l : List Nat} {n s : Nat} (hs : Small l) (hl : l.length ≤ n) (h3 : 3 ≤ n) (hlt : s < 32) :
    val l / 2 ^ (32 * (n - 2) - s) = (limb l (n - 2) + 4294967296 * limb l (n - 1)) * 2 ^ s + limb l (n - 3) / 2 ^ (32 - s) := by
  have e0 : val (l ++ List.replicate (n - l.length) 0) = val l := by rw [val_append, val_replicate, Nat.mul_zero, Nat.add_zero]
  have el : ∀ i, limb (l ++ List.replicate (n - l.length) 0) i = limb l i := by
    intro i
    by_cases hi : i < l.length
    · exact limb_append_left hi
    · rw [limb_ge (l := l) (by omega)]
      unfold limb
      rw [List.getElem?_append_right (by omega)]
      exact limb_replicate _ _
  have sl : Small (l ++ List.replicate (n - l.length) 0) := hs.append (Small.replicate _)
  have ll : (l ++ List.replicate (n - l.length) 0).length = n := by simp; omega
  generalize l ++ List.replicate (n - l.length) 0 = X at *
  have e1 := val_top3 (X := X) (t := n - 3) (by omega)
  have hlo := val_take_lt sl (t := n - 3) (by omega)
  rw [el, el, el, show n - 3 + 1 = n - 2 from by omega, show n - 3 + 2 = n - 1 from by omega] at e1
  rw [← e0, show 32 * (n - 2) - s = 32 * (n - 3) + (32 - s) from by omega, Nat.pow_add, ← Nat.div_div_eq_div_mul, ← pow_eq, e1, Nat.add_mul_div_left _ _ (Nat.pow_pos (by decide)), Nat.div_eq_of_lt hlo, Nat.zero_add]
  have e2 : ∀ Z, 4294967296 * Z = 2 ^ (32 - s) * (Z * 2 ^ s) := by
    intro Z
    rw [Nat.mul_left_comm, ← Nat.pow_add, show 32 - s + s = 32 from by omega, Nat.mul_comm]
  rw [e2 (limb l (n - 2) + 4294967296 * limb l (n - 1)), Nat.add_mul_div_left _ _ (Nat.two_pow_pos _), Nat.add_comm]

theorem win_or {l : List Nat} {n s : Nat} (hs : Small l) (hl : l.length ≤ n) (h3 : 3 ≤ n) (hlt : s < 32) (hb : val l < 2 ^ (32 * n - s)) :
    bits BinOp.or IntKind.u64 (IntKind.u64.wrap (((limb l (n - 2) + 4294967296 * limb l (n - 1) : Nat) : Int) * 2 ^ s)) (((limb l (n - 3) : Nat) : Int) / 2 ^ (32 - s)) = ((val l / 2 ^ (32 * (n - 2) - s) : Nat) : Int) ∧ val l / 2 ^ (32 * (n - 2) - s) < 18446744073709551616 := by
  have e := win_val hs hl h3 hlt
  have hv : val l / 2 ^ (32 * (n - 2) - s) < 18446744073709551616 := by
    rw [Nat.div_lt_iff_lt_mul (Nat.two_pow_pos _), show (18446744073709551616 : Nat) = 2 ^ 64 from by decide, ← Nat.pow_add, show 64 + (32 * (n - 2) - s) = 32 * n - s from by omega]
    exact hb
  refine ⟨?_, hv⟩
  rw [e] at hv ⊢
  have hx := limb_lt hs (n - 3)
  have h5 : limb l (n - 3) / 2 ^ (32 - s) < 2 ^ s := by
    rw [Nat.div_lt_iff_lt_mul (Nat.two_pow_pos _), ← Nat.pow_add, show s + (32 - s) = 32 from by omega]; exact hx
  have e2 : (((limb l (n - 3) : Nat) : Int) / 2 ^ (32 - s)) = ((limb l (n - 3) / 2 ^ (32 - s) : Nat) : Int) := by rw [Int.natCast_ediv, Int.natCast_pow]; rfl
  have e3 : (((limb l (n - 2) + 4294967296 * limb l (n - 1) : Nat) : Int) * 2 ^ s) = (((limb l (n - 2) + 4294967296 * limb l (n - 1)) * 2 ^ s : Nat) : Int) := by rw [Int.natCast_mul, Int.natCast_pow]; rfl
  rw [e2, e3]
  generalize limb l (n - 2) + 4294967296 * limb l (n - 1) = y at *
  generalize limb l (n - 3) / 2 ^ (32 - s) = z at *
  have e4 : IntKind.u64.wrap ((y * 2 ^ s : Nat) : Int) = ((y * 2 ^ s : Nat) : Int) := by
    rw [IntKind.wrap_u64]
    generalize y * 2 ^ s = t at *
    omega
  rw [e4, u64_or_nat _ _ (by omega) (by omega)]
  have := Nat.shiftLeft_add_eq_or_of_lt h5 y
  rw [Nat.shiftLeft_eq] at this
  rw [← this]

set_option maxHeartbeats 1000000 in
set_option maxRecDepth 100000 in
theorem nat_window (w : World) (a : Option Addr) (k c m n s : Nat) (h : Raw w a k c m) (hk : k ≤ n) (hn : n < 1000000000) (h3 : 3 ≤ n) (hs : s < 32) (hb : m < 2 ^ (32 * n - s)) :
    Calls Tryz.prog 236 #[.slice a k c, .int .i64 (n : Nat), .int .i64 (s : Nat)] w fun e w' => e = .returned (.int .u64 (m / 2 ^ (32 * (n - 2) - s) : Nat)) ∧ Ext w w' := by
  obtain ⟨l, hl, hv, hA⟩ := h
  rw [← hv] at hb
  have HW := Lib.hid (win_or hA.small (by omega) h3 hs hb)
  have b1 := limb_lt hA.small (n - 1)
  have b2 := limb_lt hA.small (n - 2)
  have b3 := limb_lt hA.small (n - 3)
  have HL := Lib.hid hl; have HV := Lib.hid hv; clear hl hv hb
  go_enter Tryz.func236, Tryz.ntmps236
  go_wp2_with fail
  have hx0 : Ext w (w.alloc (Obj.cells #[Value.slice a k c] 51)) := (Ext.refl _).alloc _
  have hcell : (w.alloc (Obj.cells #[Value.slice a k c] 51)).cell? ⟨w.heap.size, 0, none⟩ = some (.slice a k c) := (Arr.alloc w 51 [.slice a k c]).cell 0
  generalize w.alloc (Obj.cells #[Value.slice a k c] 51) = W at hx0 hcell ⊢
  have cl : ∀ q i : Nat, Calls Tryz.prog 240 #[.int .i64 (i : Nat), .pointer (some ⟨w.heap.size, 0, none⟩)] (W.drewN q) fun e w' => e = .returned (.int .u64 (limb l i : Nat)) ∧ w' = W.drewN q := by
    intro q i
    exact (nat_window_limb (W.drewN q) ⟨w.heap.size, 0, none⟩ a k c i l (by rw [← hcell]; rfl) HL.out ((hA.ext hx0).ext ((Ext.refl _).drewN q))).mono (fun e w' ⟨h1, h2⟩ => ⟨h1, h2.symm⟩)
  have CL := Lib.hid cl; clear cl
  have e1 : IntKind.i64.wrap ((n : Int) - 1) = ((n - 1 : Nat) : Int) := by rw [IntWalk.i64_in _ (by omega)]; omega
  have e2 : IntKind.i64.wrap ((n : Int) - 2) = ((n - 2 : Nat) : Int) := by rw [IntWalk.i64_in _ (by omega)]; omega
  have e3 : IntKind.i64.wrap ((n : Int) - 3) = ((n - 3 : Nat) : Int) := by rw [IntWalk.i64_in _ (by omega)]; omega
  have e4 : IntKind.i64.wrap (32 - (s : Int)) = ((32 - s : Nat) : Int) := by rw [IntWalk.i64_in _ (by omega)]; omega
  have hor := or_lo (limb l (n - 1)) (limb l (n - 2)) b1 b2
  go_quiet ((go_at_call 240; exact Calls.quiet_of_same (CL.out _ _)))
  clear e1 e2 e3 e4
  go_wp2_with fail
  go_ret
  refine ⟨ret_int ?_, hx0.drewN _⟩
  have hW := HW.out.1
  rw [HV.out] at hW
  simp only [Int.natCast_add, Int.natCast_mul] at hW
  exact hW

set_option maxHeartbeats 400000 in
theorem nat_combine (w : World) (a b : Option Addr) (k k' c c' n m x y : Nat) (ha : Raw w a k c n) (hb : Raw w b k' c' m) (h1 : len n < 900000000) (h2 : len m < 900000000) (hx : x < 18446744073709551616) (hy : y < 18446744073709551616) (hle : m * y ≤ n * x) :
    Calls Tryz.prog 231 #[.slice a k c, .int .u64 (x : Nat), .slice b k' c', .int .u64 (y : Nat)] w (NewNat (n * x - m * y) w) := by
  have lx := len_le_two.2 hx
  have ly := len_le_two.2 hy
  go_enter Tryz.func231, Tryz.ntmps231
  go_wp2_with fail
  refine (nat_FromUint64 _ _ hx).mono ?_
  rintro e w1 ⟨a1, c1, rfl, r1, f1, x1⟩
  go_wp2_with fail
  refine (nat_Mul _ _ _ _ _ _ _ _ _ (ha.ext x1) r1 (by omega) (by omega)).mono ?_
  rintro e w2 ⟨a2, c2, rfl, r2, f2, x2⟩
  go_wp2_with fail
  refine (nat_FromUint64 _ _ hy).mono ?_
  rintro e w3 ⟨a3, c3, rfl, r3, f3, x3⟩
  go_wp2_with fail
  refine (nat_Mul _ _ _ _ _ _ _ _ _ (((hb.ext x1).ext x2).ext x3) r3 (by omega) (by omega)).mono ?_
  rintro e w4 ⟨a4, c4, rfl, r4, f4, x4⟩
  go_wp2_with fail
  refine (nat_Sub _ _ _ _ _ _ _ _ _ ((r2.ext x3).ext x4) r4 hle).mono ?_
  rintro e w5 ⟨a5, c5, rfl, r5, f5, x5⟩
  go_wp2_with fail
  go_ret
  have hx4 := (((x1.trans x2).trans x3).trans x4)
  exact ⟨_, _, rfl, r5, f5.mono hx4.size, hx4.trans x5⟩
end Go.Proofs.YtgihpfkjpfanmaaGreat


namespace Go.Proofs.YtgihpfkjpfanmaaGreat
open Go.RowKit

theorem box5 {W w1 : World} {b : Nat} {T : TypeId} {v0 v1 v2 v3 v4 : Value} (h : Arr W b T [v0, v1, v2, v3, v4]) (hx : Ext W w1) :
    (w1.cell? ⟨b, 0, none⟩ = some v0 ∧ w1.cell? ⟨b, 1, none⟩ = some v1 ∧ w1.cell? ⟨b, 2, none⟩ = some v2 ∧ w1.cell? ⟨b, 3, none⟩ = some v3 ∧ w1.cell? ⟨b, 4, none⟩ = some v4) ∧ w1.frozen? ⟨b, 0, none⟩ = false ∧ w1.frozen? ⟨b, 1, none⟩ = false ∧ w1.frozen? ⟨b, 2, none⟩ = false ∧ w1.frozen? ⟨b, 3, none⟩ = false ∧ w1.frozen? ⟨b, 4, none⟩ = false :=
  ⟨⟨(h.ext hx).cell 0, (h.ext hx).cell 1, (h.ext hx).cell 2, (h.ext hx).cell 3, (h.ext hx).cell 4⟩, (h.ext hx).frozen 0, (h.ext hx).frozen 1, (h.ext hx).frozen 2, (h.ext hx).frozen 3, (h.ext hx).frozen 4⟩

theorem Touch.five {lo hi b : Nat} (w : World) (h1 : lo ≤ b) (h2 : b < hi) (v0 v1 v2 v3 v4 : Value) : Touch lo hi w (((((w.setCell ⟨b, 0, none⟩ v0).setCell ⟨b, 1, none⟩ v1).setCell ⟨b, 2, none⟩ v2).setCell ⟨b, 3, none⟩ v3).setCell ⟨b, 4, none⟩ v4) :=
  (((((Touch.refl _ _ _).setCell h1 h2 _).setCell h1 h2 _).setCell h1 h2 _).setCell h1 h2 _).setCell h1 h2 _

/-- The sign of a step. -/
def sg (ev : Bool) : Int := if ev then -1 else 1
theorem sg_not (ev : Bool) : - sg ev = sg (!ev) := by cases ev <;> rfl
theorem sg_one (ev : Bool) : decide (sg ev = 1) = !ev := by cases ev <;> rfl

/-- What leading returns. -/
def LeadOf (n m : Nat) (w : World) (e : Ending) (w' : World) : Prop :=
  ∃ (u0 u1 v0 v1 : Nat) (ev : Bool), e = .returned (.agg #[.int .u64 u0, .int .u64 u1, .int .u64 v0, .int .u64 v1, .bool ev]) ∧ u0 < 18446744073709551616 ∧ u1 < 18446744073709551616 ∧ v0 < 18446744073709551616 ∧ v1 < 18446744073709551616 ∧ (v0 = 0 ∨ ∃ A B, LehOut n m ev u0 v0 u1 v1 A B) ∧ Ext w w'

theorem top_bound {n : Nat} {l : List Nat} (hs : Small l) (hl : l.length = len n) (hv : val l = n) (h0 : 0 < len n) : n < 2 ^ (32 * len n - lz (limb l (len n - 1))) ∧ lz (limb l (len n - 1)) < 32 := by
  have hx := limb_lt hs (len n - 1)
  have ht := top_ne_zero hs (by omega) (by rw [hv, hl])
  rw [hl] at ht
  obtain ⟨z1, z2, z3⟩ := lz_bounds (x := limb l (len n - 1)) (by omega) hx
  have hmv : n = val (l.take (len n - 1)) + 4294967296 ^ (len n - 1) * limb l (len n - 1) := by
    have := val_take_succ (l := l) (k := len n - 1) (by omega)
    rw [show len n - 1 + 1 = l.length from by omega, List.take_length, hv] at this
    exact this
  have htl := val_take_lt hs (t := len n - 1) (by omega)
  obtain ⟨nt1, nt2⟩ := norm_top hmv htl z1 z2 z3
  rw [show len n - 1 + 1 = len n from by omega, pow_eq] at nt1
  refine ⟨?_, z1⟩
  generalize lz (limb l (len n - 1)) = s at *
  have e : 2 ^ (32 * len n) = 2 ^ (32 * len n - s) * 2 ^ s := by rw [← Nat.pow_add]; congr 1; omega
  rw [e] at nt1
  exact Nat.lt_of_mul_lt_mul_right nt1

set_option maxHeartbeats 2000000 in
set_option maxRecDepth 100000 in
theorem nat_leading (w : World) (a b : Option Addr) (c c' n m : Nat) (ha : Raw w a (len n) c n) (hb : Raw w b (len m) c' m) (h3 : 3 ≤ len n) (hle : m ≤ n) (hs : len n < 900000000) :
    Calls Tryz.prog 230 #[.slice a (len n) c, .slice b (len m) c'] w (LeadOf n m w) := by
  have hlm := len_mono hle
  have la := ha.le
  obtain ⟨l, hl, hv, hA⟩ := id ha
  obtain ⟨pa, oa, rfl⟩ := hA.at (by omega)
  have hx := limb_lt hA.small (len n - 1)
  have ht := top_ne_zero hA.small (by omega) (by rw [hv, hl])
  rw [hl] at ht
  obtain ⟨tb, z1⟩ := top_bound hA.small hl hv (by omega)
  have hlz := fun W => bits_LeadingZeros32 (limb l (len n - 1)) W (by omega) hx
  have HL := Lib.hid hl; have HV := Lib.hid hv
  clear hl hv
  generalize lz (limb l (len n - 1)) = s at tb z1 hlz
  have HTB := Lib.hid tb; have HLZ := Lib.hid hlz
  clear tb hlz
  have hwA : ∀ V, Ext w V → Calls Tryz.prog 236 #[.slice (some ⟨pa, oa, none⟩) (len n) c, .int .i64 (len n : Nat), .int .i64 (s : Nat)] V fun e w' => e = .returned (.int .u64 (n / 2 ^ (32 * (len n - 2) - s) : Nat)) ∧ Ext V w' := fun V hV => nat_window _ _ _ _ _ _ _ (ha.ext hV) (Nat.le_refl _) (by omega) h3 z1 HTB.out
  have hwB : ∀ V, Ext w V → Calls Tryz.prog 236 #[.slice b (len m) c', .int .i64 (len n : Nat), .int .i64 (s : Nat)] V fun e w' => e = .returned (.int .u64 (m / 2 ^ (32 * (len n - 2) - s) : Nat)) ∧ Ext V w' := fun V hV => nat_window _ _ _ _ _ _ _ (hb.ext hV) hlm (by omega) h3 z1 (Nat.lt_of_le_of_lt hle HTB.out)
  have hE0 : 0 < 2 ^ (32 * (len n - 2) - s) := Nat.two_pow_pos _
  have hXb : n / 2 ^ (32 * (len n - 2) - s) < 18446744073709551616 := by
    rw [Nat.div_lt_iff_lt_mul hE0, show (18446744073709551616 : Nat) = 2 ^ 64 from by decide, ← Nat.pow_add, show 64 + (32 * (len n - 2) - s) = 32 * len n - s from by omega]
    exact HTB.out
  have hYX : m / 2 ^ (32 * (len n - 2) - s) ≤ n / 2 ^ (32 * (len n - 2) - s) := Nat.div_le_div_right hle
  have hna := (Nat.div_add_mod' n (2 ^ (32 * (len n - 2) - s))).symm
  have hmb := (Nat.div_add_mod' m (2 ^ (32 * (len n - 2) - s))).symm
  have hna1 := Nat.mod_lt n hE0
  have hmb1 := Nat.mod_lt m hE0
  generalize n / 2 ^ (32 * (len n - 2) - s) = X at *
  generalize m / 2 ^ (32 * (len n - 2) - s) = Y at *
  have hout : ∀ (sx : Int) (x y u1 u2 v1 v2 : Nat), Leh X Y sx x y u1 u2 v1 v2 → v2 ≤ y → v1 + v2 ≤ x - y → ∃ A B, LehOut n m (decide (sx = 1)) u1 v1 u2 v2 A B := fun _ _ _ _ _ _ _ h c1 c2 => h.out hna hmb hna1 hmb1 c1 c2
  have HO := Lib.hid hout; have HA := Lib.hid hwA; have HB := Lib.hid hwB
  clear hout hwA hwB hna hmb hna1 hmb1 hE0
  go_enter Tryz.func230, Tryz.ntmps230
  go_upto_region 1 with fail
  obtain ⟨W, hW, x0, Z0, A0⟩ := boxes1 w 241 [.int .u64 0, .int .u64 0, .int .u64 0, .int .u64 0, .bool false]
  rw [← hW]
  clear hW
  have hc := (hA.ext x0).cellAt (len n - 1) (by rw [HL.out]; omega)
  go_wp2_with fail
  refine (HLZ.out W).mono ?_
  rintro e w' ⟨rfl, rfl⟩
  go_wp2_with fail
  refine (HA.out _ x0).mono ?_
  rintro e w1 ⟨rfl, hx1⟩
  go_wp2_with fail
  refine (HB.out _ (x0.trans hx1)).mono ?_
  rintro e w2 ⟨rfl, hx2⟩
  have hx12 := hx1.trans hx2
  go_wp2_with fail
  go_loopw [7, 8, 9, 10, 11, 12, 13, 14, 15] (fun a7 a8 a9 a10 a11 a12 a13 a14 a15 wr => ∃ (x y u0 u1 u2 v0 v1 v2 : Nat) (ev : Bool), x < 18446744073709551616 ∧ y < 18446744073709551616 ∧ u0 < 18446744073709551616 ∧ u1 < 18446744073709551616 ∧ u2 < 18446744073709551616 ∧ v0 < 18446744073709551616 ∧ v1 < 18446744073709551616 ∧ v2 < 18446744073709551616 ∧ Hid (Leh X Y (sg ev) x y u1 u2 v1 v2) ∧ Hid (v0 = 0 ∨ ∃ A B, LehOut n m ev u0 v0 u1 v1 A B) ∧ Quiet w2 wr ∧
      a7 = .int .u64 x ∧ a8 = .int .u64 y ∧ a9 = .int .u64 u0 ∧ a10 = .int .u64 u1 ∧ a11 = .int .u64 u2 ∧ a12 = .int .u64 v0 ∧ a13 = .int .u64 v1 ∧ a14 = .int .u64 v2 ∧ a15 = .bool ev) (fun _ a8 _ _ _ _ _ _ _ _ => (intOf a8).toNat)
  case atStart => exact ⟨X, Y, 0, 1, 0, 0, 0, 1, false, hXb, by omega, by omega, by omega, by omega, by omega, by omega, by omega, Leh.start hYX, Or.inl rfl, Quiet.refl _, rfl, rfl, rfl, rfl, rfl, rfl, rfl, rfl, rfl⟩
  case round =>
    obtain ⟨x, y, u0, u1, u2, v0, v1, v2, ev, k1, k2, k3, k4, k5, k6, k7, k8, hL, hO, hq, rfl, rfl, rfl, rfl, rfl, rfl, rfl, rfl, rfl⟩ := hrel
    have hyx := hL.out.le
    by_cases c1 : v2 ≤ y
    · have hbig := hL.out.big.1
      have hv2 := hL.out.pos
      have hsum : v1 + v2 ≤ X := by
        rw [← hbig]
        have h1 : v2 * 1 ≤ v2 * x := Nat.mul_le_mul_left _ (by omega)
        have h2 : v1 * 1 ≤ v1 * y := Nat.mul_le_mul_left _ (by omega)
        omega
      clear hbig
      by_cases c2 : v1 + v2 ≤ x - y
      · have d1 : decide ((v2 : Int) ≤ (y : Int)) = true := by simp; exact c1
        have d2 : decide ((v1 : Int) + (v2 : Int) ≤ (x : Int) - (y : Int)) = true := by simp; omega
        have hy0 : 0 < y := by omega
        have hst := hL.out.step hy0
        have hlt := Nat.mod_lt x hy0
        have hql : x / y ≤ x := Nat.div_le_self _ _
        have hb2 := hst.big.1
        have huv := hst.uv
        have ho := HO.out _ _ _ _ _ _ _ hL.out c1 c2
        rw [sg_one] at ho
        rw [sg_not] at hst
        have eq1 : (x : Int) / (y : Int) = ((x / y : Nat) : Int) := by rw [Int.natCast_ediv]
        have er1 : (x : Int) % (y : Int) = ((x % y : Nat) : Int) := by rw [Int.natCast_emod]
        generalize x / y = q at *
        generalize x % y = r at *
        have eq2 : IntKind.u64.wrap ((x : Int) / (y : Int)) = (q : Int) := by rw [eq1, IntKind.wrap_u64]; omega
        have er2 : (x : Int).tmod (y : Int) = (r : Int) := by rw [Int.tmod_eq_emod_of_nonneg (by omega), er1]
        have hv3 : v1 + q * v2 ≤ X := by
          rw [← hb2]
          have h1 : (v1 + q * v2) * 1 ≤ (v1 + q * v2) * y := Nat.mul_le_mul_left _ (by omega)
          omega
        clear hb2
        have m1 : (q : Int) * (v2 : Int) ≤ 18446744073709551615 := by rw [← Int.natCast_mul]; omega
        have m2 : 0 ≤ (q : Int) * (v2 : Int) := by rw [← Int.natCast_mul]; omega
        have m3 : (q : Int) * (u2 : Int) ≤ 18446744073709551615 := by rw [← Int.natCast_mul]; omega
        have m4 : 0 ≤ (q : Int) * (u2 : Int) := by rw [← Int.natCast_mul]; omega
        have m5 : (v1 : Int) + (q : Int) * (v2 : Int) ≤ 18446744073709551615 := by rw [← Int.natCast_mul]; omega
        have m6 : (u1 : Int) + (q : Int) * (u2 : Int) ≤ 18446744073709551615 := by rw [← Int.natCast_mul]; omega
        have m7 : u1 + q * u2 < 18446744073709551616 := by omega
        have m8 : v1 + q * v2 < 18446744073709551616 := by omega
        have HST := Lib.hid hst; have HOO := Lib.hid ho
        clear hst ho huv hv3
        have y1 : (1 : Int) ≤ (y : Int) := by omega
        have y2 : ((y : Int) == 0) = false := by rw [beq_eq_false_iff_ne]; omega
        have y3 : ((y : Nat) : Int) ≠ 0 := by omega
        go_wp2_with fail
        go_quiet (fail)
        go_wp2_with fail
        refine ⟨⟨y, r, u1, u2, u1 + q * u2, v1, v2, v1 + q * v2, !ev, k2, by omega, k4, k5, m7, k7, k8, m8, HST, Or.inr HOO.out, hq.drewN _, rfl, rfl, rfl, rfl, ?_, rfl, rfl, ?_, rfl⟩, ?_⟩
        · rw [Int.natCast_add, Int.natCast_mul]
        · rw [Int.natCast_add, Int.natCast_mul]
        · simp [intOf]; omega
      · have d1 : decide ((v2 : Int) ≤ (y : Int)) = true := by simp; exact c1
        have d2 : decide ((v1 : Int) + (v2 : Int) ≤ (x : Int) - (y : Int)) = false := by simp; omega
        obtain ⟨⟨b0, b1, b2, b3, b4⟩, f0, f1, f2, f3, f4⟩ := box5 A0 (hx12.trans hq.ext)
        have zz := (A0.ext (hx12.trans hq.ext)).lt
        go_wp2_with fail
        exact bodyPost_ret (v := .agg #[.int .u64 u0, .int .u64 u1, .int .u64 v0, .int .u64 v1, .bool ev]) (by simp [results, Tryz.results230, go_sem, b0, b1, b2, b3, b4]) rfl ⟨u0, u1, v0, v1, ev, rfl, k3, k4, k6, k7, hO.out, x0.touch (hx12.trans hq.ext) (Touch.five _ (Nat.le_refl _) (by rw [Z0.out]; omega) _ _ _ _ _)⟩
    · have d2 : decide ((v2 : Int) ≤ (y : Int)) = false := by simp; omega
      obtain ⟨⟨b0, b1, b2, b3, b4⟩, f0, f1, f2, f3, f4⟩ := box5 A0 (hx12.trans hq.ext)
      have zz := (A0.ext (hx12.trans hq.ext)).lt
      go_wp2_with fail
      exact bodyPost_ret (v := .agg #[.int .u64 u0, .int .u64 u1, .int .u64 v0, .int .u64 v1, .bool ev]) (by simp [results, Tryz.results230, go_sem, b0, b1, b2, b3, b4]) rfl ⟨u0, u1, v0, v1, ev, rfl, k3, k4, k6, k7, hO.out, x0.touch (hx12.trans hq.ext) (Touch.five _ (Nat.le_refl _) (by rw [Z0.out]; omega) _ _ _ _ _)⟩
end Go.Proofs.YtgihpfkjpfanmaaGreat


namespace Go.Proofs.YtgihpfkjpfanmaaGreat
open Go.RowKit

/-- The two numbers at the head of the loop. -/
def GcdAt (g n m : Nat) (w : World) (s0 s1 : Value) (wr : World) : Prop :=
  ∃ (A B : Nat) (a b : Option Addr) (c c' : Nat), A + B ≤ g ∧ B ≤ A ∧ Nat.gcd A B = Nat.gcd n m ∧ len A < 400000000 ∧ Raw wr a (len A) c A ∧ Raw wr b (len B) c' B ∧ Ext w wr ∧ s0 = .slice a (len A) c ∧ s1 = .slice b (len B) c'

set_option maxHeartbeats 4000000 in
set_option maxRecDepth 100000 in
theorem nat_GCD (w : World) (a b : Option Addr) (k k' c c' n m : Nat) (ha : Raw w a k c n) (hb : Raw w b k' c' m) (h1 : len n < 400000000) (h2 : len m < 400000000) :
    Calls Tryz.prog 219 #[.slice a k c, .slice b k' c'] w (NewNat (Nat.gcd n m) w) := by
  have ha' := ha.cut
  have hb' := hb.cut
  go_enter Tryz.func219, Tryz.ntmps219
  go_wp2_with fail
  refine (nat_cut _ _ _ _ _ ha).mono ?_
  rintro e w' ⟨rfl, rfl⟩
  go_wp2_with fail
  refine (nat_cut _ _ _ _ _ hb).mono ?_
  rintro e w' ⟨rfl, rfl⟩
  go_wp2_with fail
  refine (nat_Compare _ _ _ _ _ _ _ _ _ ha' hb').mono ?_
  rintro e w0 ⟨rfl, hq0⟩
  have hq := hq0.ext
  go_upto_if 18 with fail
  go_cut [0, 1] (fun s0 s1 wx => GcdAt (n + m) n m w s0 s1 wx)
  case first =>
    by_cases hlt : n < m
    · have hc : cmpN n m = -1 := by unfold cmpN; rw [if_pos hlt]
      rw [hc]; clear hc
      go_wp2_with fail
      go_meet
      exact ⟨m, n, b, a, c', c, by omega, by omega, Nat.gcd_comm _ _, h2, hb'.ext hq, ha'.ext hq, hq, rfl, rfl⟩
    · have hc : 0 ≤ cmpN n m := by unfold cmpN; rw [if_neg (by omega)]; split <;> decide
      go_wp2_with fail
      go_meet
      exact ⟨n, m, a, b, c, c', by omega, by omega, rfl, h1, ha'.ext hq, hb'.ext hq, hq, rfl, rfl⟩
  case rest =>
    have HC := Lib.hid hcut
    clear hcut
    go_wp2_with fail
    go_loopg [0, 1] (n + m) (fun g s0 s1 wr => GcdAt g n m w s0 s1 wr)
    case atStart => exact HC.out
    case round =>
      obtain ⟨A, B, a, b, c, c', hg, hBA, hgcd, hlA, rA, rB, hx, rfl, rfl⟩ := hrel
      have hlB := len_mono hBA
      have HGC := Lib.hid hgcd
      clear hgcd
      have lA := rA.le
      by_cases hB : B = 0
      · subst hB
        rw [len_zero]
        go_wp2_with fail
        refine (nat_Trim _ _ _ _ _ rA).mono ?_
        rintro e w1 ⟨a1, c1, rfl, r1, f1, x1⟩
        go_wp2_with fail
        go_ret
        have hg0 := HGC.out
        rw [Nat.gcd_zero_right] at hg0
        rw [← hg0]
        exact ⟨_, _, rfl, r1, f1.mono hx.size, hx.trans x1⟩
      · have pB := len_pos.2 (Nat.pos_of_ne_zero hB)
        by_cases h2 : len A ≤ 2
        · have hA64 := len_le_two.1 h2
          have hB64 := len_le_two.1 (Nat.le_trans hlB h2)
          go_wp2_with fail
          refine (nat_word _ _ _ _ _ rA h2).mono ?_
          rintro e w' ⟨rfl, rfl⟩
          go_wp2_with fail
          refine (nat_word _ _ _ _ _ rB (Nat.le_trans hlB h2)).mono ?_
          rintro e w' ⟨rfl, rfl⟩
          go_wp2_with fail
          obtain ⟨wo, rfl⟩ : ∃ wo : World, wo = wr := ⟨_, rfl⟩
          go_loopw [5, 6] (fun s5 s6 wr => ∃ x y : Nat, x < 18446744073709551616 ∧ y < 18446744073709551616 ∧ Hid (Nat.gcd x y = Nat.gcd n m) ∧ Quiet wo wr ∧ s5 = .int .u64 x ∧ s6 = .int .u64 y) (fun _ s6 _ => (intOf s6).toNat)
          case atStart => exact ⟨A, B, hA64, hB64, HGC, Quiet.refl _, rfl, rfl⟩
          case round =>
            obtain ⟨x, y, hx64, hy64, hgxy, hq, rfl, rfl⟩ := hrel
            by_cases hy : y = 0
            · subst hy
              go_wp2_with fail
              refine (nat_FromUint64 _ _ hx64).mono ?_
              rintro e w1 ⟨a1, c1, rfl, r1, f1, x1⟩
              go_wp2_with fail
              go_ret
              have hg0 := hgxy.out
              rw [Nat.gcd_zero_right] at hg0
              rw [← hg0]
              exact ⟨_, _, rfl, r1, f1.mono (Nat.le_trans hx.size hq.ext.size), (hx.trans hq.ext).trans x1⟩
            · have hyb : (((y : Nat) : Int) != 0) = true := by rw [bne_iff_ne]; omega
              have e3 : (x : Int).tmod (y : Int) = ((x % y : Nat) : Int) := by rw [Int.tmod_eq_emod_of_nonneg (by omega), Int.natCast_emod]
              have hyi : ((y : Int) == 0) = false := by rw [beq_eq_false_iff_ne]; omega
              have h1y : (1 : Int) ≤ (y : Int) := by omega
              have hlt := Nat.mod_lt x (Nat.pos_of_ne_zero hy)
              have hgg : Nat.gcd y (x % y) = Nat.gcd x y := by rw [Nat.gcd_comm y, ← Nat.gcd_rec, Nat.gcd_comm]
              have HG := Lib.hid hgg; clear hgg
              go_wp2_with fail
              go_quiet (fail)
              go_wp2_with fail
              go_roundw
              case rel => exact ⟨y, x % y, by omega, by omega, HG.out.trans hgxy.out, hq.drewN _, rfl, rfl⟩
              case measure => simp [intOf]; omega
        · go_wp2_with fail
          refine (nat_leading _ _ _ _ _ _ _ rA rB (by omega) hBA (by omega)).mono ?_
          rintro e w1 ⟨u0, u1, v0, v1, ev, rfl, k0, k1, k2, k3, hout, x1⟩
          have HO := Lib.hid hout; clear hout
          go_upto_region 11 with fail
          obtain ⟨W, hWe, x0, Z0, A0⟩ := boxes1 w1 241 [.int .u64 u0, .int .u64 u1, .int .u64 v0, .int .u64 v1, .bool ev]
          rw [← hWe]
          clear hWe
          have hW := x1.trans x0
          obtain ⟨⟨b0, b1, b2, b3, b4⟩, f0, f1, f2, f3, f4⟩ := box5 A0 (Ext.refl _)
          by_cases hv0 : v0 = 0
          · subst hv0
            go_wp2_with fail
            refine (nat_DivMod _ _ _ _ _ _ _ _ _ (rA.ext hW) (rB.ext hW) (Nat.pos_of_ne_zero hB) (by omega)).mono ?_
            rintro e w2 ⟨a2, c2, a3, c3, rfl, r2, f2, r3, f3, x2⟩
            have hlt := Nat.mod_lt A (Nat.pos_of_ne_zero hB)
            go_wp2_with fail
            go_roundg (B + A % B)
            case measure => omega
            case rel => exact ⟨B, A % B, b, a3, c', c3, Nat.le_refl _, by omega, by rw [← HGC.out, Nat.gcd_comm B, ← Nat.gcd_rec, Nat.gcd_comm], by omega, (rB.ext hW).ext x2, r3, (hx.trans hW).trans x2, rfl, rfl⟩
          · have hvb : (((v0 : Nat) : Int) == 0) = false := by rw [beq_eq_false_iff_ne]; omega
            obtain ⟨A1, B1, hO⟩ : ∃ A1 B1, LehOut A B ev u0 v0 u1 v1 A1 B1 := by
              rcases HO.out with h | h
              · exact absurd h hv0
              · exact h
            have hless := hO.less hv0 (Nat.pos_of_ne_zero hB)
            have hA1 : A1 ≤ A := by
              have h5 := hO.ea
              have h6 : A1 ≤ v1 * A1 := Nat.le_mul_of_pos_left _ hO.pos
              omega
            cases ev with
            | true =>
              have q1 : B * v0 ≤ A * u0 := by have := hO.fst; simp only [if_true] at this; rw [Nat.mul_comm B, Nat.mul_comm A]; omega
              have q2 : A * u1 ≤ B * v1 := by have := hO.snd; simp only [if_true] at this; rw [Nat.mul_comm B, Nat.mul_comm A]; omega
              have e1 : A * u0 - B * v0 = A1 := by have := hO.fst; simp only [if_true] at this; rw [Nat.mul_comm B, Nat.mul_comm A]; omega
              have e2 : B * v1 - A * u1 = B1 := by have := hO.snd; simp only [if_true] at this; rw [Nat.mul_comm B, Nat.mul_comm A]; omega
              have hc1 := fun V (hV : Ext wr V) => nat_combine V _ _ _ _ _ _ _ _ u0 v0 (rA.ext hV) (rB.ext hV) (by omega) (by omega) k0 k2 q1
              have hc2 := fun V (hV : Ext wr V) => nat_combine V _ _ _ _ _ _ _ _ v1 u1 (rB.ext hV) (rA.ext hV) (by omega) (by omega) k3 k1 q2
              rw [e1] at hc1
              rw [e2] at hc2
              have hlA1 := len_mono hA1
              have HC1 := Lib.hid hc1; have HC2 := Lib.hid hc2
              clear hc1 hc2 q1 q2 e1 e2
              have tok1 : True := trivial
              go_wp2_with fail
              go_region_held3 (fun w' => w'.cell? ⟨w1.heap.size, 0, none⟩ = some (.int .u64 u0) ∧ w'.cell? ⟨w1.heap.size, 1, none⟩ = some (.int .u64 u1) ∧ w'.cell? ⟨w1.heap.size, 2, none⟩ = some (.int .u64 v0) ∧ w'.cell? ⟨w1.heap.size, 3, none⟩ = some (.int .u64 v1)) (first | exact ⟨b0, b1, b2, b3⟩ | (simp [go_sem, b0, b1, b2, b3])) (first
                | (go_at_call 231; have _t := tok1; refine (HC1.out _ (hW.drew)).mono ?_; rintro e w2 ⟨a2, c2, rfl, r2, f2, x2⟩; clear tok1 _t; obtain ⟨⟨b0, b1, b2, b3, b4⟩, f0, f1, f2', f3, f4⟩ := box5 A0 ((Ext.refl _).drew.trans x2))
                | (go_at_call 231; refine (HC2.out _ (hW.drew.trans x2)).mono ?_; rintro e w3 ⟨a3, c3, rfl, r3, f3', x3⟩; obtain ⟨⟨b0, b1, b2, b3, b4⟩, f0, f1, f2', f3, f4⟩ := box5 A0 (((Ext.refl _).drew.trans x2).trans x3)))
              all_goals go_wp2_with fail
              all_goals go_roundg (A1 + B1)
              all_goals (first
                | (case measure => omega)
                | (case rel => exact ⟨A1, B1, a2, a3, c2, c3, Nat.le_refl _, hO.le, hO.gcd.trans HGC.out, by omega, r2.ext x3, r3, ((hx.trans hW).drew.trans x2).trans x3, rfl, rfl⟩))
            | false =>
              have q1 : A * u0 ≤ B * v0 := by have := hO.fst; simp only [Bool.false_eq_true, if_false] at this; rw [Nat.mul_comm B, Nat.mul_comm A]; omega
              have q2 : B * v1 ≤ A * u1 := by have := hO.snd; simp only [Bool.false_eq_true, if_false] at this; rw [Nat.mul_comm B, Nat.mul_comm A]; omega
              have e1 : B * v0 - A * u0 = A1 := by have := hO.fst; simp only [Bool.false_eq_true, if_false] at this; rw [Nat.mul_comm B, Nat.mul_comm A]; omega
              have e2 : A * u1 - B * v1 = B1 := by have := hO.snd; simp only [Bool.false_eq_true, if_false] at this; rw [Nat.mul_comm B, Nat.mul_comm A]; omega
              have hc1 := fun V (hV : Ext wr V) => nat_combine V _ _ _ _ _ _ _ _ v0 u0 (rB.ext hV) (rA.ext hV) (by omega) (by omega) k2 k0 q1
              have hc2 := fun V (hV : Ext wr V) => nat_combine V _ _ _ _ _ _ _ _ u1 v1 (rA.ext hV) (rB.ext hV) (by omega) (by omega) k1 k3 q2
              rw [e1] at hc1
              rw [e2] at hc2
              have hlA1 := len_mono hA1
              have HC1 := Lib.hid hc1; have HC2 := Lib.hid hc2
              clear hc1 hc2 q1 q2 e1 e2
              have tok1 : True := trivial
              go_wp2_with fail
              go_region_held3 (fun w' => w'.cell? ⟨w1.heap.size, 0, none⟩ = some (.int .u64 u0) ∧ w'.cell? ⟨w1.heap.size, 1, none⟩ = some (.int .u64 u1) ∧ w'.cell? ⟨w1.heap.size, 2, none⟩ = some (.int .u64 v0) ∧ w'.cell? ⟨w1.heap.size, 3, none⟩ = some (.int .u64 v1)) (first | exact ⟨b0, b1, b2, b3⟩ | (simp [go_sem, b0, b1, b2, b3])) (first
                | (go_at_call 231; have _t := tok1; refine (HC1.out _ (hW.drew)).mono ?_; rintro e w2 ⟨a2, c2, rfl, r2, f2, x2⟩; clear tok1 _t; obtain ⟨⟨b0, b1, b2, b3, b4⟩, f0, f1, f2', f3, f4⟩ := box5 A0 ((Ext.refl _).drew.trans x2))
                | (go_at_call 231; refine (HC2.out _ (hW.drew.trans x2)).mono ?_; rintro e w3 ⟨a3, c3, rfl, r3, f3', x3⟩; obtain ⟨⟨b0, b1, b2, b3, b4⟩, f0, f1, f2', f3, f4⟩ := box5 A0 (((Ext.refl _).drew.trans x2).trans x3)))
              all_goals go_wp2_with fail
              all_goals go_roundg (A1 + B1)
              all_goals (first
                | (case measure => omega)
                | (case rel => exact ⟨A1, B1, a2, a3, c2, c3, Nat.le_refl _, hO.le, hO.gcd.trans HGC.out, by omega, r2.ext x3, r3, ((hx.trans hW).drew.trans x2).trans x3, rfl, rfl⟩))
end Go.Proofs.YtgihpfkjpfanmaaGreat


namespace Go.Proofs.YtgihpfkjpfanmaaGreat
open Go.RowKit

/-- The integer of a sign and a magnitude. -/
def sgn (s : Bool) (n : Nat) : Int := if s then -(n : Int) else n
theorem sgn_natAbs (s : Bool) (n : Nat) : (sgn s n).natAbs = n := by unfold sgn; cases s <;> simp
theorem sgn_neg (s : Bool) (n : Nat) : decide (sgn s n < 0) = (s && decide (0 < n)) := by
  unfold sgn
  cases s
  · simp
  · simp
theorem sgn_false (n : Nat) : sgn false n = n := rfl
theorem sgn_true (n : Nat) : sgn true n = -(n : Int) := rfl
theorem sgn_zero (s : Bool) : sgn s 0 = 0 := by cases s <;> rfl
theorem sgn_not (s : Bool) (n : Nat) : sgn (!s) n = - sgn s n := by cases s <;> simp [sgn]

/-- A call returns a new integer z, canonical. -/
def NewInt (z : Int) (w : World) (e : Ending) (w' : World) : Prop := ∃ a c, e = .returned (.agg #[.bool (decide (z < 0)), .slice a (len z.natAbs) c]) ∧ Raw w' a (len z.natAbs) c z.natAbs ∧ Fr w.heap.size a ∧ Ext w w'

/-- integer.signed. -/
theorem int_signed (w : World) (s : Bool) (a : Option Addr) (k c : Nat) (_hk : k ≤ 1099511627776) :
    Calls Tryz.prog 207 #[.bool s, .slice a k c] w fun e w' => e = .returned (.agg #[.bool (s && decide (0 < k)), .slice a k c]) ∧ Ext w w' := by
  cases s
  · go_enter Tryz.func207, Tryz.ntmps207
    go_wp2
    exact bodyPost_ret (v := .agg #[.bool false, .slice a k c]) (by simp [results, Tryz.results207, go_sem]) rfl ⟨rfl, (Ext.refl _).alloc _⟩
  · by_cases h0 : 0 < k
    · have d0 : decide (0 < k) = true := by simp [h0]
      go_enter Tryz.func207, Tryz.ntmps207
      go_wp2
      exact bodyPost_ret (v := .agg #[.bool true, .slice a k c]) (by simp [results, Tryz.results207, go_sem]) rfl ⟨by simp [h0], (Ext.refl _).alloc _⟩
    · have d0 : decide (0 < k) = false := by simp [h0]
      go_enter Tryz.func207, Tryz.ntmps207
      go_wp2
      exact bodyPost_ret (v := .agg #[.bool false, .slice a k c]) (by simp [results, Tryz.results207, go_sem]) rfl ⟨by simp [h0], (Ext.refl _).alloc _⟩

/-- What signed makes of a new list of limbs. -/
theorem NewInt.of_signed {w w1 w2 : World} {s : Bool} {a : Option Addr} {c n : Nat} {e : Ending} (h : Raw w1 a (len n) c n) (hf : Fr w.heap.size a) (hx : Ext w w1)
    (he : e = .returned (.agg #[.bool (s && decide (0 < len n)), .slice a (len n) c]) ∧ Ext w1 w2) : NewInt (sgn s n) w e w2 := by
  obtain ⟨rfl, hx2⟩ := he
  refine ⟨a, c, ?_, ?_, hf, hx.trans hx2⟩
  · rw [sgn_natAbs, sgn_neg]; simp only [len_pos]
  · rw [sgn_natAbs]; exact h.ext hx2

theorem NewInt.touch {z : Int} {w W w2 w3 : World} {e : Ending} (h : NewInt z W e w2) (hW : Ext w W) (t : Touch w.heap.size W.heap.size w2 w3) : NewInt z w e w3 := by
  obtain ⟨a, c, he, hr, hf, hx⟩ := h
  exact ⟨a, c, he, hr.touch t hf.out, hf.mono hW.size, hW.touch hx t⟩

theorem sgn_mul (s t : Bool) (n m : Nat) : sgn (s != t) (n * m) = sgn s n * sgn t m := by
  cases s <;> cases t <;> simp [sgn, Int.neg_mul, Int.mul_neg]
theorem sgn_add (s : Bool) (n m : Nat) : sgn s (n + m) = sgn s n + sgn s m := by
  cases s <;> simp [sgn]; omega
theorem sgn_sub1 (s : Bool) (n m : Nat) (h : m ≤ n) : sgn s (n - m) = sgn s n + sgn (!s) m := by
  cases s <;> simp [sgn] <;> omega
theorem sgn_sub2 (s : Bool) (n m : Nat) (h : n ≤ m) : sgn (!s) (m - n) = sgn s n + sgn (!s) m := by
  cases s <;> simp [sgn] <;> omega

theorem wrap_neg (n : Nat) (h0 : 0 < n) (h : n ≤ 9223372036854775808) : IntKind.u64.wrap (-IntKind.u64.wrap (-(n : Int))) = (n : Int) := by
  rw [IntKind.wrap_u64, IntKind.wrap_u64]; omega

set_option maxHeartbeats 400000 in
/-- integer.FromInt. -/
theorem int_FromInt (w : World) (v : Int) (h1 : -9223372036854775808 ≤ v) (h2 : v ≤ 9223372036854775807) :
    Calls Tryz.prog 145 #[.int .i64 v] w (NewInt v w) := by
  by_cases h0 : v < 0
  · obtain ⟨n, rfl⟩ : ∃ n : Nat, v = -(n : Int) := ⟨v.natAbs, by omega⟩
    have e1 := wrap_neg n (by omega) (by omega)
    go_enter Tryz.func145, Tryz.ntmps145
    go_wp2_with fail
    obtain ⟨W, hW, x0, Z0, A0⟩ := boxes1 w 53 [.bool false, .slice none 0 0]
    rw [← hW]
    clear hW
    obtain ⟨k0_0, k0_1, f0_0, f0_1⟩ := box2 A0 (Ext.refl _)
    have z0 := (A0.ext (Ext.refl _)).lt
    refine (nat_FromUint64 _ _ (by omega)).mono ?_
    rintro e w1 ⟨a1, c1, rfl, hr1, hf1, hx1⟩
    obtain ⟨k0_0, k0_1, f0_0, f0_1⟩ := box2 A0 hx1
    have z0 := (A0.ext hx1).lt
    go_wp2_with fail
    refine (int_signed _ _ _ _ _ (by have := hr1.le; omega)).mono ?_
    rintro e w2 ⟨rfl, hx2⟩
    obtain ⟨k0_0, k0_1, f0_0, f0_1⟩ := box2 A0 (hx1.trans hx2)
    have z0 := (A0.ext (hx1.trans hx2)).lt
    have fin := NewInt.of_signed (s := true) hr1 hf1 hx1 ⟨rfl, hx2⟩
    go_wp2
    exact bodyPost_ret (by simp [results, Tryz.results145, go_sem, k0_0, k0_1]) rfl (NewInt.touch fin x0 (Touch.two _ (Nat.le_refl _) (by rw [Z0.out]; omega) _ _))
  · obtain ⟨n, rfl⟩ : ∃ n : Nat, v = (n : Int) := ⟨v.natAbs, by omega⟩
    have e1 : IntKind.u64.wrap (n : Int) = (n : Int) := by rw [IntKind.wrap_u64]; omega
    go_enter Tryz.func145, Tryz.ntmps145
    go_wp2_with fail
    obtain ⟨W, hW, x0, Z0, A0⟩ := boxes1 w 53 [.bool false, .slice none 0 0]
    rw [← hW]
    clear hW
    obtain ⟨k0_0, k0_1, f0_0, f0_1⟩ := box2 A0 (Ext.refl _)
    have z0 := (A0.ext (Ext.refl _)).lt
    refine (nat_FromUint64 _ _ (by omega)).mono ?_
    rintro e w1 ⟨a1, c1, rfl, hr1, hf1, hx1⟩
    obtain ⟨k0_0, k0_1, f0_0, f0_1⟩ := box2 A0 hx1
    have z0 := (A0.ext hx1).lt
    go_wp2_with fail
    refine (int_signed _ _ _ _ _ (by have := hr1.le; omega)).mono ?_
    rintro e w2 ⟨rfl, hx2⟩
    obtain ⟨k0_0, k0_1, f0_0, f0_1⟩ := box2 A0 (hx1.trans hx2)
    have z0 := (A0.ext (hx1.trans hx2)).lt
    have fin := NewInt.of_signed (s := false) hr1 hf1 hx1 ⟨rfl, hx2⟩
    go_wp2
    exact bodyPost_ret (by simp [results, Tryz.results145, go_sem, k0_0, k0_1]) rfl (NewInt.touch fin x0 (Touch.two _ (Nat.le_refl _) (by rw [Z0.out]; omega) _ _))

set_option maxHeartbeats 400000 in
/-- integer.Norm. -/
theorem int_Norm (w : World) (s : Bool) (a : Option Addr) (k c n : Nat) (h : Raw w a k c n) :
    Calls Tryz.prog 218 #[.agg #[.bool s, .slice a k c]] w (NewInt (sgn s n) w) := by
  go_enter Tryz.func218, Tryz.ntmps218
  go_wp2
  obtain ⟨W, hW, x0, Z0, A0, A1⟩ := boxes2 w 53 [.bool s, .slice a k c] 53 [.bool false, .slice none 0 0]
  rw [← hW]
  clear hW
  obtain ⟨k0_0, k0_1, f0_0, f0_1⟩ := box2 A0 (Ext.refl _)
  have z0 := (A0.ext (Ext.refl _)).lt
  obtain ⟨k1_0, k1_1, f1_0, f1_1⟩ := box2 A1 (Ext.refl _)
  have z1 := (A1.ext (Ext.refl _)).lt
  go_region_held3 (fun w' => w'.cell? ⟨w.heap.size, 0, none⟩ = some (.bool s) ∧ w'.cell? ⟨w.heap.size, 1, none⟩ = some (.slice a k c)) (first | exact ⟨k0_0, k0_1⟩ | (simp [go_sem, k0_0, k0_1])) (first
    | (go_at_call 212; refine (nat_Trim _ _ _ _ _ ((h.ext x0).ext (by exact (Ext.refl _).drew))).mono ?_; rintro e w1 ⟨a1, c1, rfl, hr1, hf1, hx1⟩; obtain ⟨k0_0, k0_1, f0_0, f0_1⟩ := box2 A0 (((Ext.refl _).drew).trans hx1); have z0 := (A0.ext (((Ext.refl _).drew).trans hx1)).lt; obtain ⟨k1_0, k1_1, f1_0, f1_1⟩ := box2 A1 (((Ext.refl _).drew).trans hx1); have z1 := (A1.ext (((Ext.refl _).drew).trans hx1)).lt)
    | (go_at_call 207; refine (int_signed _ _ _ _ _ (by have := hr1.le; omega)).mono ?_; rintro e w2 ⟨rfl, hx2⟩; obtain ⟨k0_0, k0_1, f0_0, f0_1⟩ := box2 A0 ((((Ext.refl _).drew).trans hx1).trans hx2); have z0 := (A0.ext ((((Ext.refl _).drew).trans hx1).trans hx2)).lt; obtain ⟨k1_0, k1_1, f1_0, f1_1⟩ := box2 A1 ((((Ext.refl _).drew).trans hx1).trans hx2); have z1 := (A1.ext ((((Ext.refl _).drew).trans hx1).trans hx2)).lt))
  have fin := NewInt.of_signed (s := s) hr1 hf1 hx1 ⟨rfl, hx2⟩
  go_wp2
  exact bodyPost_ret (by simp [results, Tryz.results218, go_sem, k1_0, k1_1]) rfl (NewInt.touch fin x0.drew (Touch.two _ (by omega) (by rw [World.drew, Z0.out]; omega) _ _))

set_option maxHeartbeats 1000000 in
/-- integer.Mul. -/
theorem int_Mul (w : World) (s t : Bool) (a b : Option Addr) (k c k' c' n m : Nat) (h : Raw w a k c n) (h' : Raw w b k' c' m) (b1 : len n < 1000000000) (b2 : len m < 1000000000) :
    Calls Tryz.prog 134 #[.agg #[.bool s, .slice a k c], .agg #[.bool t, .slice b k' c']] w (NewInt (sgn s n * sgn t m) w) := by
  rw [← sgn_mul]
  go_enter Tryz.func134, Tryz.ntmps134
  go_wp2
  obtain ⟨W, hW, x0, Z0, A0, A1, A2⟩ := boxes3 w 53 [.bool s, .slice a k c] 53 [.bool t, .slice b k' c'] 53 [.bool false, .slice none 0 0]
  rw [← hW]
  clear hW
  obtain ⟨k0_0, k0_1, f0_0, f0_1⟩ := box2 A0 (Ext.refl _)
  have z0 := (A0.ext (Ext.refl _)).lt
  obtain ⟨k1_0, k1_1, f1_0, f1_1⟩ := box2 A1 (Ext.refl _)
  have z1 := (A1.ext (Ext.refl _)).lt
  obtain ⟨k2_0, k2_1, f2_0, f2_1⟩ := box2 A2 (Ext.refl _)
  have z2 := (A2.ext (Ext.refl _)).lt
  go_region_held3 (fun w' => w'.cell? ⟨w.heap.size, 0, none⟩ = some (.bool s) ∧ w'.cell? ⟨w.heap.size, 1, none⟩ = some (.slice a k c) ∧ w'.cell? ⟨w.heap.size + 1, 0, none⟩ = some (.bool t) ∧ w'.cell? ⟨w.heap.size + 1, 1, none⟩ = some (.slice b k' c')) (first | exact ⟨k0_0, k0_1, k1_0, k1_1⟩ | (simp [go_sem, k0_0, k0_1, k1_0, k1_1])) (first
    | (go_at_call 157; refine (nat_Mul _ _ _ _ _ _ _ _ _ ((h.ext x0).ext (by exact (Ext.refl _).drew)) ((h'.ext x0).ext (by exact (Ext.refl _).drew)) b1 b2).mono ?_; rintro e w1 ⟨a1, c1, rfl, hr1, hf1, hx1⟩; obtain ⟨k0_0, k0_1, f0_0, f0_1⟩ := box2 A0 (((Ext.refl _).drew).trans hx1); have z0 := (A0.ext (((Ext.refl _).drew).trans hx1)).lt; obtain ⟨k1_0, k1_1, f1_0, f1_1⟩ := box2 A1 (((Ext.refl _).drew).trans hx1); have z1 := (A1.ext (((Ext.refl _).drew).trans hx1)).lt; obtain ⟨k2_0, k2_1, f2_0, f2_1⟩ := box2 A2 (((Ext.refl _).drew).trans hx1); have z2 := (A2.ext (((Ext.refl _).drew).trans hx1)).lt)
    | (go_at_call 207; refine (int_signed _ _ _ _ _ (by have := hr1.le; omega)).mono ?_; rintro e w2 ⟨rfl, hx2⟩; obtain ⟨k0_0, k0_1, f0_0, f0_1⟩ := box2 A0 ((((Ext.refl _).drew).trans hx1).trans hx2); have z0 := (A0.ext ((((Ext.refl _).drew).trans hx1).trans hx2)).lt; obtain ⟨k1_0, k1_1, f1_0, f1_1⟩ := box2 A1 ((((Ext.refl _).drew).trans hx1).trans hx2); have z1 := (A1.ext ((((Ext.refl _).drew).trans hx1).trans hx2)).lt; obtain ⟨k2_0, k2_1, f2_0, f2_1⟩ := box2 A2 ((((Ext.refl _).drew).trans hx1).trans hx2); have z2 := (A2.ext ((((Ext.refl _).drew).trans hx1).trans hx2)).lt))
  have fin := NewInt.of_signed (s := s != t) hr1 hf1 hx1 ⟨rfl, hx2⟩
  go_wp2
  exact bodyPost_ret (by simp [results, Tryz.results134, go_sem, k2_0, k2_1]; cases s <;> cases t <;> rfl) rfl (NewInt.touch fin x0.drew (Touch.two _ (by omega) (by rw [World.drew, Z0.out]; omega) _ _))

set_option maxHeartbeats 1000000 in
/-- integer.Add, equal signs. -/
theorem int_Add_same (w : World) (s : Bool) (a b : Option Addr) (k c k' c' n m : Nat) (h : Raw w a k c n) (h' : Raw w b k' c' m) (b1 : len n < 1000000000) (b2 : len m < 1000000000) :
    Calls Tryz.prog 208 #[.agg #[.bool s, .slice a k c], .agg #[.bool s, .slice b k' c']] w (NewInt (sgn s n + sgn s m) w) := by
  rw [← sgn_add]
  go_enter Tryz.func208, Tryz.ntmps208
  go_wp2
  obtain ⟨W, hW, x0, Z0, A0, A1, A2⟩ := boxes3 w 53 [.bool s, .slice a k c] 53 [.bool s, .slice b k' c'] 53 [.bool false, .slice none 0 0]
  rw [← hW]
  clear hW
  obtain ⟨k0_0, k0_1, f0_0, f0_1⟩ := box2 A0 (Ext.refl _)
  have z0 := (A0.ext (Ext.refl _)).lt
  obtain ⟨k1_0, k1_1, f1_0, f1_1⟩ := box2 A1 (Ext.refl _)
  have z1 := (A1.ext (Ext.refl _)).lt
  obtain ⟨k2_0, k2_1, f2_0, f2_1⟩ := box2 A2 (Ext.refl _)
  have z2 := (A2.ext (Ext.refl _)).lt
  go_region_held3 (fun w' => w'.cell? ⟨w.heap.size, 0, none⟩ = some (.bool s) ∧ w'.cell? ⟨w.heap.size, 1, none⟩ = some (.slice a k c) ∧ w'.cell? ⟨w.heap.size + 1, 0, none⟩ = some (.bool s) ∧ w'.cell? ⟨w.heap.size + 1, 1, none⟩ = some (.slice b k' c')) (first | exact ⟨k0_0, k0_1, k1_0, k1_1⟩ | (simp [go_sem, k0_0, k0_1, k1_0, k1_1])) (first
    | (go_at_call 228; refine (nat_Add _ _ _ _ _ _ _ _ _ ((h.ext x0).ext (by exact (Ext.refl _).drew)) ((h'.ext x0).ext (by exact (Ext.refl _).drew)) b1 b2).mono ?_; rintro e w1 ⟨a1, c1, rfl, hr1, hf1, hx1⟩; obtain ⟨k0_0, k0_1, f0_0, f0_1⟩ := box2 A0 (((Ext.refl _).drew).trans hx1); have z0 := (A0.ext (((Ext.refl _).drew).trans hx1)).lt; obtain ⟨k1_0, k1_1, f1_0, f1_1⟩ := box2 A1 (((Ext.refl _).drew).trans hx1); have z1 := (A1.ext (((Ext.refl _).drew).trans hx1)).lt; obtain ⟨k2_0, k2_1, f2_0, f2_1⟩ := box2 A2 (((Ext.refl _).drew).trans hx1); have z2 := (A2.ext (((Ext.refl _).drew).trans hx1)).lt)
    | (go_at_call 207; refine (int_signed _ _ _ _ _ (by have := hr1.le; omega)).mono ?_; rintro e w2 ⟨rfl, hx2⟩; obtain ⟨k0_0, k0_1, f0_0, f0_1⟩ := box2 A0 ((((Ext.refl _).drew).trans hx1).trans hx2); have z0 := (A0.ext ((((Ext.refl _).drew).trans hx1).trans hx2)).lt; obtain ⟨k1_0, k1_1, f1_0, f1_1⟩ := box2 A1 ((((Ext.refl _).drew).trans hx1).trans hx2); have z1 := (A1.ext ((((Ext.refl _).drew).trans hx1).trans hx2)).lt; obtain ⟨k2_0, k2_1, f2_0, f2_1⟩ := box2 A2 ((((Ext.refl _).drew).trans hx1).trans hx2); have z2 := (A2.ext ((((Ext.refl _).drew).trans hx1).trans hx2)).lt))
  have fin := NewInt.of_signed (s := s) hr1 hf1 hx1 ⟨rfl, hx2⟩
  go_wp2
  exact bodyPost_ret (by simp [results, Tryz.results208, go_sem, k2_0, k2_1]) rfl (NewInt.touch fin x0.drew (Touch.two _ (by omega) (by rw [World.drew, Z0.out]; omega) _ _))

set_option maxHeartbeats 1000000 in
/-- integer.Add, different signs. -/
theorem int_Add_other (w : World) (s : Bool) (a b : Option Addr) (k c k' c' n m : Nat) (h : Raw w a k c n) (h' : Raw w b k' c' m) :
    Calls Tryz.prog 208 #[.agg #[.bool s, .slice a k c], .agg #[.bool (!s), .slice b k' c']] w (NewInt (sgn s n + sgn (!s) m) w) := by
  have hne : (s == !s) = false := by cases s <;> rfl
  by_cases hle : m ≤ n
  · rw [← sgn_sub1 s n m hle]
    go_enter Tryz.func208, Tryz.ntmps208
    go_wp2_with fail
    obtain ⟨W, hW, x0, Z0, A0, A1, A2⟩ := boxes3 w 53 [.bool s, .slice a k c] 53 [.bool (!s), .slice b k' c'] 53 [.bool false, .slice none 0 0]
    rw [← hW]
    clear hW
    obtain ⟨k0_0, k0_1, f0_0, f0_1⟩ := box2 A0 (Ext.refl _)
    have z0 := (A0.ext (Ext.refl _)).lt
    obtain ⟨k1_0, k1_1, f1_0, f1_1⟩ := box2 A1 (Ext.refl _)
    have z1 := (A1.ext (Ext.refl _)).lt
    obtain ⟨k2_0, k2_1, f2_0, f2_1⟩ := box2 A2 (Ext.refl _)
    have z2 := (A2.ext (Ext.refl _)).lt
    refine (nat_Sub _ _ _ _ _ _ _ _ _ (h.ext x0) (h'.ext x0) hle).mono ?_
    rintro e w1 ⟨a1, c1, rfl, hr1, hf1, hx1⟩
    obtain ⟨k0_0, k0_1, f0_0, f0_1⟩ := box2 A0 hx1
    have z0 := (A0.ext hx1).lt
    obtain ⟨k1_0, k1_1, f1_0, f1_1⟩ := box2 A1 hx1
    have z1 := (A1.ext hx1).lt
    obtain ⟨k2_0, k2_1, f2_0, f2_1⟩ := box2 A2 hx1
    have z2 := (A2.ext hx1).lt
    go_wp2_with fail
    refine (int_signed _ _ _ _ _ (by have := hr1.le; omega)).mono ?_
    rintro e w2 ⟨rfl, hx2⟩
    obtain ⟨k0_0, k0_1, f0_0, f0_1⟩ := box2 A0 (hx1.trans hx2)
    have z0 := (A0.ext (hx1.trans hx2)).lt
    obtain ⟨k1_0, k1_1, f1_0, f1_1⟩ := box2 A1 (hx1.trans hx2)
    have z1 := (A1.ext (hx1.trans hx2)).lt
    obtain ⟨k2_0, k2_1, f2_0, f2_1⟩ := box2 A2 (hx1.trans hx2)
    have z2 := (A2.ext (hx1.trans hx2)).lt
    have fin := NewInt.of_signed (s := s) hr1 hf1 hx1 ⟨rfl, hx2⟩
    go_wp2
    exact bodyPost_ret (by simp [results, Tryz.results208, go_sem, k2_0, k2_1]) rfl (NewInt.touch fin x0 (Touch.two _ (by omega) (by rw [Z0.out]; omega) _ _))
  · rw [← sgn_sub2 s n m (by omega)]
    go_enter Tryz.func208, Tryz.ntmps208
    go_wp2_with fail
    obtain ⟨W, hW, x0, Z0, A0, A1, A2⟩ := boxes3 w 53 [.bool s, .slice a k c] 53 [.bool (!s), .slice b k' c'] 53 [.bool false, .slice none 0 0]
    rw [← hW]
    clear hW
    obtain ⟨k0_0, k0_1, f0_0, f0_1⟩ := box2 A0 (Ext.refl _)
    have z0 := (A0.ext (Ext.refl _)).lt
    obtain ⟨k1_0, k1_1, f1_0, f1_1⟩ := box2 A1 (Ext.refl _)
    have z1 := (A1.ext (Ext.refl _)).lt
    obtain ⟨k2_0, k2_1, f2_0, f2_1⟩ := box2 A2 (Ext.refl _)
    have z2 := (A2.ext (Ext.refl _)).lt
    refine (nat_Sub_no _ _ _ _ _ _ _ _ _ (h.ext x0) (h'.ext x0) (by omega)).mono ?_
    rintro e w1 ⟨rfl, hq1⟩
    obtain ⟨k0_0, k0_1, f0_0, f0_1⟩ := box2 A0 hq1.ext
    have z0 := (A0.ext hq1.ext).lt
    obtain ⟨k1_0, k1_1, f1_0, f1_1⟩ := box2 A1 hq1.ext
    have z1 := (A1.ext hq1.ext).lt
    obtain ⟨k2_0, k2_1, f2_0, f2_1⟩ := box2 A2 hq1.ext
    have z2 := (A2.ext hq1.ext).lt
    go_wp2_with fail
    refine (nat_Sub _ _ _ _ _ _ _ _ _ ((h'.ext x0).ext hq1.ext) ((h.ext x0).ext hq1.ext) (by omega)).mono ?_
    rintro e w2 ⟨a1, c1, rfl, hr1, hf1, hx1⟩
    obtain ⟨k0_0, k0_1, f0_0, f0_1⟩ := box2 A0 (hq1.ext.trans hx1)
    have z0 := (A0.ext (hq1.ext.trans hx1)).lt
    obtain ⟨k1_0, k1_1, f1_0, f1_1⟩ := box2 A1 (hq1.ext.trans hx1)
    have z1 := (A1.ext (hq1.ext.trans hx1)).lt
    obtain ⟨k2_0, k2_1, f2_0, f2_1⟩ := box2 A2 (hq1.ext.trans hx1)
    have z2 := (A2.ext (hq1.ext.trans hx1)).lt
    go_wp2_with fail
    refine (int_signed _ _ _ _ _ (by have := hr1.le; omega)).mono ?_
    rintro e w3 ⟨rfl, hx2⟩
    obtain ⟨k0_0, k0_1, f0_0, f0_1⟩ := box2 A0 ((hq1.ext.trans hx1).trans hx2)
    have z0 := (A0.ext ((hq1.ext.trans hx1).trans hx2)).lt
    obtain ⟨k1_0, k1_1, f1_0, f1_1⟩ := box2 A1 ((hq1.ext.trans hx1).trans hx2)
    have z1 := (A1.ext ((hq1.ext.trans hx1).trans hx2)).lt
    obtain ⟨k2_0, k2_1, f2_0, f2_1⟩ := box2 A2 ((hq1.ext.trans hx1).trans hx2)
    have z2 := (A2.ext ((hq1.ext.trans hx1).trans hx2)).lt
    have fin := NewInt.of_signed (s := !s) hr1 (hf1.mono hq1.ext.size) (hq1.ext.trans hx1) ⟨rfl, hx2⟩
    go_wp2
    exact bodyPost_ret (by simp [results, Tryz.results208, go_sem, k2_0, k2_1]) rfl (NewInt.touch fin x0 (Touch.two _ (by omega) (by rw [Z0.out]; omega) _ _))

/-- integer.Add. -/
theorem int_Add (w : World) (s t : Bool) (a b : Option Addr) (k c k' c' n m : Nat) (h : Raw w a k c n) (h' : Raw w b k' c' m) (b1 : len n < 1000000000) (b2 : len m < 1000000000) :
    Calls Tryz.prog 208 #[.agg #[.bool s, .slice a k c], .agg #[.bool t, .slice b k' c']] w (NewInt (sgn s n + sgn t m) w) := by
  by_cases e : t = s
  · subst e; exact int_Add_same w t a b k c k' c' n m h h' b1 b2
  · obtain rfl : t = !s := by cases s <;> cases t <;> simp_all
    exact int_Add_other w s a b k c k' c' n m h h'

/-- integer.Sign. -/
theorem int_Sign (w : World) (s : Bool) (a : Option Addr) (k c n : Nat) (h : Raw w a k c n) :
    Calls Tryz.prog 154 #[.agg #[.bool s, .slice a k c]] w fun e w' => e = .returned (.int .i64 (sgn s n).sign) ∧ Ext w w' := by
  have hb := boxes1 w 53 [.bool s, .slice a k c]
  by_cases h0 : n = 0
  · subst h0
    have hc : cmpN 0 0 = 0 := rfl
    go_enter Tryz.func154, Tryz.ntmps154
    go_wp2_with fail
    refine (nat_Compare _ _ _ _ _ _ _ _ _ (h.ext ((Ext.refl _).alloc _)) (Raw.nil _)).mono ?_
    rintro e w1 ⟨rfl, hq⟩
    rw [hc]
    go_wp2
    go_ret
    exact ⟨by rw [sgn_zero]; rfl, (((Ext.refl _).alloc _).trans hq.ext)⟩
  · have hc : cmpN n 0 = 1 := by unfold cmpN; rw [if_neg (by omega), if_neg h0]
    have HC := Lib.hid hc; clear hc
    cases s
    · have e1 : (sgn false n).sign = 1 := by rw [sgn_false, Int.sign_eq_one_of_pos (by omega)]
      have E1 := Lib.hid e1; clear e1
      go_enter Tryz.func154, Tryz.ntmps154
      go_wp2_with fail
      refine (nat_Compare _ _ _ _ _ _ _ _ _ (h.ext ((Ext.refl _).alloc _)) (Raw.nil _)).mono ?_
      rintro e w1 ⟨rfl, hq⟩
      rw [HC.out]
      obtain ⟨k0, k1, f0, f1⟩ := box2 (Arr.alloc w 53 [.bool false, .slice a k c]) hq.ext
      go_wp2
      go_ret
      exact ⟨ret_int E1.out.symm, (((Ext.refl _).alloc _).trans hq.ext)⟩
    · have e1 : (sgn true n).sign = -1 := by rw [sgn_true, Int.sign_eq_neg_one_of_neg (by omega)]
      have E1 := Lib.hid e1; clear e1
      go_enter Tryz.func154, Tryz.ntmps154
      go_wp2_with fail
      refine (nat_Compare _ _ _ _ _ _ _ _ _ (h.ext ((Ext.refl _).alloc _)) (Raw.nil _)).mono ?_
      rintro e w1 ⟨rfl, hq⟩
      rw [HC.out]
      obtain ⟨k0, k1, f0, f1⟩ := box2 (Arr.alloc w 53 [.bool true, .slice a k c]) hq.ext
      go_wp2
      go_ret
      exact ⟨ret_int E1.out.symm, (((Ext.refl _).alloc _).trans hq.ext)⟩

end Go.Proofs.YtgihpfkjpfanmaaGreat


namespace Go.Proofs.YtgihpfkjpfanmaaGreat
open Go.RowKit

/-- -1, 0 or 1. -/
def cmpZ (x y : Int) : Int := if x < y then -1 else if x = y then 0 else 1
theorem cmpZ_lt {x y : Int} (h : x < y) : cmpZ x y = -1 := by unfold cmpZ; rw [if_pos h]
theorem cmpZ_gt {x y : Int} (h : y < x) : cmpZ x y = 1 := by unfold cmpZ; rw [if_neg (by omega), if_neg (by omega)]
theorem cmpZ_nat (n m : Nat) : cmpZ (n : Int) (m : Int) = cmpN n m := by
  unfold cmpZ cmpN; simp only [Int.ofNat_lt]
  by_cases h : n < m
  · simp [h]
  · by_cases h' : n = m
    · simp [h']
    · have : ¬ (n : Int) = m := by omega
      simp [h, h', this]
theorem cmpZ_neg (x y : Int) : cmpZ (-x) (-y) = cmpZ y x := by
  unfold cmpZ
  by_cases h : y < x
  · rw [if_pos (by omega), if_pos h]
  · rw [if_neg (by omega), if_neg h]
    by_cases h' : x = y
    · rw [if_pos (by omega), if_pos (by omega)]
    · rw [if_neg (by omega), if_neg (by omega)]

theorem sign_lt {x y : Int} (h : x.sign < y.sign) : x < y := by
  rcases Int.lt_trichotomy x 0 with h1 | h1 | h1
  · rcases Int.lt_trichotomy y 0 with h2 | h2 | h2
    · rw [Int.sign_eq_neg_one_of_neg h1, Int.sign_eq_neg_one_of_neg h2] at h; omega
    · omega
    · omega
  · subst h1
    rcases Int.lt_trichotomy y 0 with h2 | h2 | h2
    · rw [Int.sign_eq_neg_one_of_neg h2] at h; simp at h
    · subst h2; simp at h
    · exact h2
  · rcases Int.lt_trichotomy y 0 with h2 | h2 | h2
    · rw [Int.sign_eq_one_of_pos h1, Int.sign_eq_neg_one_of_neg h2] at h; omega
    · subst h2; rw [Int.sign_eq_one_of_pos h1] at h; simp at h
    · rw [Int.sign_eq_one_of_pos h1, Int.sign_eq_one_of_pos h2] at h; omega

set_option maxHeartbeats 1000000 in
/-- integer.Compare. -/
theorem int_Compare (w : World) (s t : Bool) (a b : Option Addr) (k c k' c' n m : Nat) (h : Raw w a k c n) (h' : Raw w b k' c' m) :
    Calls Tryz.prog 133 #[.agg #[.bool s, .slice a k c], .agg #[.bool t, .slice b k' c']] w fun e w' => e = .returned (.int .i64 (cmpZ (sgn s n) (sgn t m))) ∧ Ext w w' := by
  by_cases c1 : (sgn s n).sign < (sgn t m).sign
  · have e1 := cmpZ_lt (sign_lt c1)
    have E1 := Lib.hid e1; clear e1
    go_enter Tryz.func133, Tryz.ntmps133
    go_wp2
    obtain ⟨W, hW, x0, Z0, A0, A1⟩ := boxes2 w 53 [.bool s, .slice a k c] 53 [.bool t, .slice b k' c']
    rw [← hW]
    clear hW
    obtain ⟨k0_0, k0_1, f0_0, f0_1⟩ := box2 A0 (Ext.refl _)
    have z0 := (A0.ext (Ext.refl _)).lt
    obtain ⟨k1_0, k1_1, f1_0, f1_1⟩ := box2 A1 (Ext.refl _)
    have z1 := (A1.ext (Ext.refl _)).lt
    have tok1 : True := trivial
    go_region_held3 (fun w' => w'.cell? ⟨w.heap.size, 0, none⟩ = some (.bool s) ∧ w'.cell? ⟨w.heap.size, 1, none⟩ = some (.slice a k c) ∧ w'.cell? ⟨w.heap.size + 1, 0, none⟩ = some (.bool t) ∧ w'.cell? ⟨w.heap.size + 1, 1, none⟩ = some (.slice b k' c')) (first | exact ⟨k0_0, k0_1, k1_0, k1_1⟩ | (simp [go_sem, k0_0, k0_1, k1_0, k1_1])) (first
      | (go_at_call 154; have _t := tok1; refine (int_Sign _ _ _ _ _ _ ((h.ext x0).ext (by exact (Ext.refl _).drew))).mono ?_; rintro e w1 ⟨rfl, hx1⟩; clear tok1 _t; obtain ⟨k0_0, k0_1, f0_0, f0_1⟩ := box2 A0 (((Ext.refl _).drew).trans hx1); have z0 := (A0.ext (((Ext.refl _).drew).trans hx1)).lt; obtain ⟨k1_0, k1_1, f1_0, f1_1⟩ := box2 A1 (((Ext.refl _).drew).trans hx1); have z1 := (A1.ext (((Ext.refl _).drew).trans hx1)).lt)
      | (go_at_call 154; refine (int_Sign _ _ _ _ _ _ (((h'.ext x0).ext (by exact (Ext.refl _).drew)).ext hx1)).mono ?_; rintro e w2 ⟨rfl, hx2⟩; obtain ⟨k0_0, k0_1, f0_0, f0_1⟩ := box2 A0 ((((Ext.refl _).drew).trans hx1).trans hx2); have z0 := (A0.ext ((((Ext.refl _).drew).trans hx1).trans hx2)).lt; obtain ⟨k1_0, k1_1, f1_0, f1_1⟩ := box2 A1 ((((Ext.refl _).drew).trans hx1).trans hx2); have z1 := (A1.ext ((((Ext.refl _).drew).trans hx1).trans hx2)).lt))
    generalize (sgn s n).sign = p at *
    generalize (sgn t m).sign = q at *
    go_wp2
    go_ret
    exact ⟨ret_int E1.out.symm, (x0.drew.trans hx1).trans hx2⟩
  by_cases c2 : (sgn t m).sign < (sgn s n).sign
  · have e1 := cmpZ_gt (sign_lt c2)
    have E1 := Lib.hid e1; clear e1
    go_enter Tryz.func133, Tryz.ntmps133
    go_wp2
    obtain ⟨W, hW, x0, Z0, A0, A1⟩ := boxes2 w 53 [.bool s, .slice a k c] 53 [.bool t, .slice b k' c']
    rw [← hW]
    clear hW
    obtain ⟨k0_0, k0_1, f0_0, f0_1⟩ := box2 A0 (Ext.refl _)
    have z0 := (A0.ext (Ext.refl _)).lt
    obtain ⟨k1_0, k1_1, f1_0, f1_1⟩ := box2 A1 (Ext.refl _)
    have z1 := (A1.ext (Ext.refl _)).lt
    have tok1 : True := trivial
    go_region_held3 (fun w' => w'.cell? ⟨w.heap.size, 0, none⟩ = some (.bool s) ∧ w'.cell? ⟨w.heap.size, 1, none⟩ = some (.slice a k c) ∧ w'.cell? ⟨w.heap.size + 1, 0, none⟩ = some (.bool t) ∧ w'.cell? ⟨w.heap.size + 1, 1, none⟩ = some (.slice b k' c')) (first | exact ⟨k0_0, k0_1, k1_0, k1_1⟩ | (simp [go_sem, k0_0, k0_1, k1_0, k1_1])) (first
      | (go_at_call 154; have _t := tok1; refine (int_Sign _ _ _ _ _ _ ((h.ext x0).ext (by exact (Ext.refl _).drew))).mono ?_; rintro e w1 ⟨rfl, hx1⟩; clear tok1 _t; obtain ⟨k0_0, k0_1, f0_0, f0_1⟩ := box2 A0 (((Ext.refl _).drew).trans hx1); have z0 := (A0.ext (((Ext.refl _).drew).trans hx1)).lt; obtain ⟨k1_0, k1_1, f1_0, f1_1⟩ := box2 A1 (((Ext.refl _).drew).trans hx1); have z1 := (A1.ext (((Ext.refl _).drew).trans hx1)).lt)
      | (go_at_call 154; refine (int_Sign _ _ _ _ _ _ (((h'.ext x0).ext (by exact (Ext.refl _).drew)).ext hx1)).mono ?_; rintro e w2 ⟨rfl, hx2⟩; obtain ⟨k0_0, k0_1, f0_0, f0_1⟩ := box2 A0 ((((Ext.refl _).drew).trans hx1).trans hx2); have z0 := (A0.ext ((((Ext.refl _).drew).trans hx1).trans hx2)).lt; obtain ⟨k1_0, k1_1, f1_0, f1_1⟩ := box2 A1 ((((Ext.refl _).drew).trans hx1).trans hx2); have z1 := (A1.ext ((((Ext.refl _).drew).trans hx1).trans hx2)).lt))
    generalize (sgn s n).sign = p at *
    generalize (sgn t m).sign = q at *
    go_wp2
    go_ret
    exact ⟨ret_int E1.out.symm, (x0.drew.trans hx1).trans hx2⟩
  have c3 : (sgn s n).sign = (sgn t m).sign := by omega
  by_cases c4 : (sgn s n).sign < 0
  · have e1 : cmpZ (sgn s n) (sgn t m) = cmpN m n := by
      have n1 : sgn s n < 0 := by apply Int.not_le.1; intro h; have := Int.sign_nonneg_iff.2 h; omega
      have n2 : sgn t m < 0 := by apply Int.not_le.1; intro h; have := Int.sign_nonneg_iff.2 h; omega
      cases s
      · rw [sgn_false] at n1; omega
      · cases t
        · rw [sgn_false] at n2; omega
        · rw [sgn_true, sgn_true, cmpZ_neg, cmpZ_nat]
    have E1 := Lib.hid e1; clear e1 c3
    go_enter Tryz.func133, Tryz.ntmps133
    go_wp2
    obtain ⟨W, hW, x0, Z0, A0, A1⟩ := boxes2 w 53 [.bool s, .slice a k c] 53 [.bool t, .slice b k' c']
    rw [← hW]
    clear hW
    obtain ⟨k0_0, k0_1, f0_0, f0_1⟩ := box2 A0 (Ext.refl _)
    have z0 := (A0.ext (Ext.refl _)).lt
    obtain ⟨k1_0, k1_1, f1_0, f1_1⟩ := box2 A1 (Ext.refl _)
    have z1 := (A1.ext (Ext.refl _)).lt
    have tok1 : True := trivial
    go_region_held3 (fun w' => w'.cell? ⟨w.heap.size, 0, none⟩ = some (.bool s) ∧ w'.cell? ⟨w.heap.size, 1, none⟩ = some (.slice a k c) ∧ w'.cell? ⟨w.heap.size + 1, 0, none⟩ = some (.bool t) ∧ w'.cell? ⟨w.heap.size + 1, 1, none⟩ = some (.slice b k' c')) (first | exact ⟨k0_0, k0_1, k1_0, k1_1⟩ | (simp [go_sem, k0_0, k0_1, k1_0, k1_1])) (first
      | (go_at_call 154; have _t := tok1; refine (int_Sign _ _ _ _ _ _ ((h.ext x0).ext (by exact (Ext.refl _).drew))).mono ?_; rintro e w1 ⟨rfl, hx1⟩; clear tok1 _t; obtain ⟨k0_0, k0_1, f0_0, f0_1⟩ := box2 A0 (((Ext.refl _).drew).trans hx1); have z0 := (A0.ext (((Ext.refl _).drew).trans hx1)).lt; obtain ⟨k1_0, k1_1, f1_0, f1_1⟩ := box2 A1 (((Ext.refl _).drew).trans hx1); have z1 := (A1.ext (((Ext.refl _).drew).trans hx1)).lt)
      | (go_at_call 154; refine (int_Sign _ _ _ _ _ _ (((h'.ext x0).ext (by exact (Ext.refl _).drew)).ext hx1)).mono ?_; rintro e w2 ⟨rfl, hx2⟩; obtain ⟨k0_0, k0_1, f0_0, f0_1⟩ := box2 A0 ((((Ext.refl _).drew).trans hx1).trans hx2); have z0 := (A0.ext ((((Ext.refl _).drew).trans hx1).trans hx2)).lt; obtain ⟨k1_0, k1_1, f1_0, f1_1⟩ := box2 A1 ((((Ext.refl _).drew).trans hx1).trans hx2); have z1 := (A1.ext ((((Ext.refl _).drew).trans hx1).trans hx2)).lt))
    generalize (sgn s n).sign = p at *
    generalize (sgn t m).sign = q at *
    go_wp2_with fail
    refine (nat_Compare _ _ _ _ _ _ _ _ _ ((((h'.ext x0).ext (by exact (Ext.refl _).drew)).ext hx1).ext hx2) ((((h.ext x0).ext (by exact (Ext.refl _).drew)).ext hx1).ext hx2)).mono ?_
    rintro e w3 ⟨rfl, hq⟩
    go_wp2
    go_ret
    exact ⟨ret_int E1.out.symm, ((x0.drew.trans hx1).trans hx2).trans hq.ext⟩
  · have e1 : cmpZ (sgn s n) (sgn t m) = cmpN n m := by
      have n1 : 0 ≤ sgn s n := by apply Int.not_lt.1; intro h; have := Int.sign_eq_neg_one_of_neg h; omega
      have n2 : 0 ≤ sgn t m := by apply Int.not_lt.1; intro h; have := Int.sign_eq_neg_one_of_neg h; omega
      have m1 : sgn s n = n := by cases s
                                  · rfl
                                  · rw [sgn_true] at *; omega
      have m2 : sgn t m = m := by cases t
                                  · rfl
                                  · rw [sgn_true] at *; omega
      rw [m1, m2, cmpZ_nat]
    have E1 := Lib.hid e1; clear e1 c3
    go_enter Tryz.func133, Tryz.ntmps133
    go_wp2
    obtain ⟨W, hW, x0, Z0, A0, A1⟩ := boxes2 w 53 [.bool s, .slice a k c] 53 [.bool t, .slice b k' c']
    rw [← hW]
    clear hW
    obtain ⟨k0_0, k0_1, f0_0, f0_1⟩ := box2 A0 (Ext.refl _)
    have z0 := (A0.ext (Ext.refl _)).lt
    obtain ⟨k1_0, k1_1, f1_0, f1_1⟩ := box2 A1 (Ext.refl _)
    have z1 := (A1.ext (Ext.refl _)).lt
    have tok1 : True := trivial
    go_region_held3 (fun w' => w'.cell? ⟨w.heap.size, 0, none⟩ = some (.bool s) ∧ w'.cell? ⟨w.heap.size, 1, none⟩ = some (.slice a k c) ∧ w'.cell? ⟨w.heap.size + 1, 0, none⟩ = some (.bool t) ∧ w'.cell? ⟨w.heap.size + 1, 1, none⟩ = some (.slice b k' c')) (first | exact ⟨k0_0, k0_1, k1_0, k1_1⟩ | (simp [go_sem, k0_0, k0_1, k1_0, k1_1])) (first
      | (go_at_call 154; have _t := tok1; refine (int_Sign _ _ _ _ _ _ ((h.ext x0).ext (by exact (Ext.refl _).drew))).mono ?_; rintro e w1 ⟨rfl, hx1⟩; clear tok1 _t; obtain ⟨k0_0, k0_1, f0_0, f0_1⟩ := box2 A0 (((Ext.refl _).drew).trans hx1); have z0 := (A0.ext (((Ext.refl _).drew).trans hx1)).lt; obtain ⟨k1_0, k1_1, f1_0, f1_1⟩ := box2 A1 (((Ext.refl _).drew).trans hx1); have z1 := (A1.ext (((Ext.refl _).drew).trans hx1)).lt)
      | (go_at_call 154; refine (int_Sign _ _ _ _ _ _ (((h'.ext x0).ext (by exact (Ext.refl _).drew)).ext hx1)).mono ?_; rintro e w2 ⟨rfl, hx2⟩; obtain ⟨k0_0, k0_1, f0_0, f0_1⟩ := box2 A0 ((((Ext.refl _).drew).trans hx1).trans hx2); have z0 := (A0.ext ((((Ext.refl _).drew).trans hx1).trans hx2)).lt; obtain ⟨k1_0, k1_1, f1_0, f1_1⟩ := box2 A1 ((((Ext.refl _).drew).trans hx1).trans hx2); have z1 := (A1.ext ((((Ext.refl _).drew).trans hx1).trans hx2)).lt))
    generalize (sgn s n).sign = p at *
    generalize (sgn t m).sign = q at *
    go_wp2_with fail
    refine (nat_Compare _ _ _ _ _ _ _ _ _ ((((h.ext x0).ext (by exact (Ext.refl _).drew)).ext hx1).ext hx2) ((((h'.ext x0).ext (by exact (Ext.refl _).drew)).ext hx1).ext hx2)).mono ?_
    rintro e w3 ⟨rfl, hq⟩
    go_wp2
    go_ret
    exact ⟨ret_int E1.out.symm, ((x0.drew.trans hx1).trans hx2).trans hq.ext⟩

/-- A call returns two new integers and true. -/
def NewInts (x y : Int) (w : World) (e : Ending) (w' : World) : Prop := ∃ a c a' c', e = .returned (.tuple #[.agg #[.bool (decide (x < 0)), .slice a (len x.natAbs) c], .agg #[.bool (decide (y < 0)), .slice a' (len y.natAbs) c'], .bool true]) ∧
  Raw w' a (len x.natAbs) c x.natAbs ∧ Fr w.heap.size a ∧ Raw w' a' (len y.natAbs) c' y.natAbs ∧ Fr w.heap.size a' ∧ Ext w w'

theorem ediv_case {s t : Bool} {n m : Nat} (hm : 0 < m) (h : s = false ∨ n % m = 0) : sgn s n / sgn t m = sgn (s != t) (n / m) ∧ sgn s n % sgn t m = (n % m : Nat) := by
  have hmz : (m : Int) ≠ 0 := by omega
  cases s
  · cases t
    · simp [sgn]
    · simp [sgn, Int.ediv_neg, Int.emod_neg]
  · have h0 : n % m = 0 := by simpa using h
    obtain ⟨q, rfl⟩ : ∃ q, n = m * q := ⟨n / m, by have := Nat.div_add_mod n m; omega⟩
    cases t
    · simp only [sgn]; constructor
      · simp [Nat.mul_div_cancel_left _ hm]
        rw [← Int.mul_neg, Int.mul_ediv_cancel_left _ hmz]
      · simp
    · simp only [sgn]; constructor
      · simp [Nat.mul_div_cancel_left _ hm]
        rw [← Int.mul_neg, Int.mul_ediv_cancel_left _ hmz]; omega
      · simp

theorem ediv_case_neg {t : Bool} {n m : Nat} (hm : 0 < m) (h : 0 < n % m) : sgn true n / sgn t m = sgn (true != t) (n / m + 1) ∧ sgn true n % sgn t m = (m - n % m : Nat) := by
  have h1 := Nat.div_add_mod n m
  have h2 := Nat.mod_lt n hm
  have hmz : (0 : Int) < (m : Int) := by omega
  have e : (-(n : Int)) = (m : Int) * (-((n / m : Nat) : Int) - 1) + ((m - n % m : Nat) : Int) := by
    rw [Int.ofNat_sub (Nat.le_of_lt h2), Int.mul_sub, Int.mul_neg]
    have : (n : Int) = (m : Int) * ((n / m : Nat) : Int) + ((n % m : Nat) : Int) := by exact_mod_cast h1.symm
    rw [Int.mul_one]
    omega
  have q1 : (-(n : Int)) / (m : Int) = -((n / m : Nat) : Int) - 1 := by
    rw [e, Int.mul_add_ediv_left _ _ (by omega), Int.ediv_eq_zero_of_lt (by omega) (by omega)]; omega
  have r1 : (-(n : Int)) % (m : Int) = ((m - n % m : Nat) : Int) := by
    rw [e, Int.mul_add_emod_self_left, Int.emod_eq_of_lt (by omega) (by omega)]
  cases t
  · simp only [sgn]; simp
    refine ⟨?_, ?_⟩
    · rw [q1]; simp; omega
    · rw [r1]
  · simp only [sgn]; simp
    refine ⟨?_, ?_⟩
    · rw [q1]; simp; omega
    · rw [r1]

end Go.Proofs.YtgihpfkjpfanmaaGreat


namespace Go.Proofs.YtgihpfkjpfanmaaGreat
open Go.RowKit

/-- A call returns a new rational number q, canonical. -/
def NewRat (q : Rat) (w : World) (e : Ending) (w' : World) : Prop := ∃ a c a' c', e = .returned (.agg #[.bool (decide (q.num < 0)), .slice a (len q.num.natAbs) c, .slice a' (len q.den) c']) ∧
  Raw w' a (len q.num.natAbs) c q.num.natAbs ∧ Fr w.heap.size a ∧ Raw w' a' (len q.den) c' q.den ∧ Fr w.heap.size a' ∧ Ext w w'

theorem NewRat.touch {q : Rat} {w W w2 w3 : World} {e : Ending} (h : NewRat q W e w2) (hW : Ext w W) (t : Touch w.heap.size W.heap.size w2 w3) : NewRat q w e w3 := by
  obtain ⟨a, c, a', c', he, hr, hf, hr', hf', hx⟩ := h
  exact ⟨a, c, a', c', he, hr.touch t hf.out, hf.mono hW.size, hr'.touch t hf'.out, hf'.mono hW.size, hW.touch hx t⟩

/-- What rational.parts returns: numerator and positive denominator. -/
def PartsOf (s : Bool) (n m : Nat) (w : World) (e : Ending) (w' : World) : Prop := ∃ s1 a1 k1 c1 n1 b1 j1 d1 m1, e = .returned (.tuple #[.agg #[.bool s1, .slice a1 k1 c1], .slice b1 j1 d1]) ∧
  Raw w' a1 k1 c1 n1 ∧ Raw w' b1 j1 d1 m1 ∧ 0 < m1 ∧ mkRat (sgn s1 n1) m1 = mkRat (sgn s n) m ∧ len n1 ≤ len n ∧ len m1 ≤ len m + 1 ∧ Ext w w'

theorem raw_one (w : World) : Raw (w.alloc (Obj.cells #[.int .u32 1] 122)) (some ⟨w.heap.size, 0, none⟩) 1 1 1 :=
  ⟨[1], rfl, rfl, (Arr.alloc w 122 (u32s [1])).limbs (Small.one (by decide)) (by simp)⟩
theorem len1 : len 1 = 1 := len_one (by decide) (by decide)

set_option maxHeartbeats 400000 in
/-- rational.parts. -/
theorem rat_parts (w : World) (s : Bool) (a b : Option Addr) (k c j d n m : Nat) (h : Raw w a k c n) (g : Raw w b j d m) :
    Calls Tryz.prog 132 #[.agg #[.bool s, .slice a k c, .slice b j d]] w (PartsOf s n m w) := by
  by_cases hm : m = 0
  · subst hm
    have hc : cmpN 0 0 = 0 := rfl
    go_enter Tryz.func132, Tryz.ntmps132
    go_wp2_with fail
    obtain ⟨W, hW, x0, Z0, A0, A1⟩ := boxes2 w 55 [.bool s, .slice a k c, .slice b j d] 53 [.bool false, .slice none 0 0]
    rw [← hW]
    clear hW
    obtain ⟨k0_0, k0_1, k0_2, f0_0, f0_1, f0_2⟩ := box3 A0 (Ext.refl _)
    have z0 := (A0.ext (Ext.refl _)).lt
    obtain ⟨k1_0, k1_1, f1_0, f1_1⟩ := box2 A1 (Ext.refl _)
    have z1 := (A1.ext (Ext.refl _)).lt
    refine (nat_Compare _ _ _ _ _ _ _ _ _ (g.ext x0) (Raw.nil _)).mono ?_
    rintro e w1 ⟨rfl, hq1⟩
    rw [hc]
    obtain ⟨k0_0, k0_1, k0_2, f0_0, f0_1, f0_2⟩ := box3 A0 hq1.ext
    have z0 := (A0.ext hq1.ext).lt
    obtain ⟨k1_0, k1_1, f1_0, f1_1⟩ := box2 A1 hq1.ext
    have z1 := (A1.ext hq1.ext).lt
    go_wp2
    refine bodyPost_ret (v := .tuple #[.agg #[.bool false, .slice none 0 0], .slice (some ⟨w1.heap.size, 0, none⟩) 1 1]) (by simp [results, Tryz.results132, go_sem, k1_0, k1_1, z1]) rfl ?_
    refine ⟨false, none, 0, 0, 0, some ⟨w1.heap.size, 0, none⟩, 1, 1, 1, rfl, Raw.nil _, ?_, by omega, by simp [sgn], by rw [len_zero]; omega, by rw [len1]; omega, ?_⟩
    · have := raw_one ((w1.setCell ⟨w.heap.size + 1, 0, none⟩ (.bool false)).setCell ⟨w.heap.size + 1, 1, none⟩ (.slice none 0 0)); simpa using this
    · refine Ext.alloc (Ext.setCell (Ext.setCell (x0.trans hq1.ext) ?_ _) ?_ _) _ <;> simp
  · have hc : cmpN m 0 = 1 := by unfold cmpN; rw [if_neg (by omega), if_neg hm]
    have HC := Lib.hid hc; clear hc
    go_enter Tryz.func132, Tryz.ntmps132
    go_wp2_with fail
    obtain ⟨W, hW, x0, Z0, A0, A1⟩ := boxes2 w 55 [.bool s, .slice a k c, .slice b j d] 53 [.bool false, .slice none 0 0]
    rw [← hW]
    clear hW
    obtain ⟨k0_0, k0_1, k0_2, f0_0, f0_1, f0_2⟩ := box3 A0 (Ext.refl _)
    have z0 := (A0.ext (Ext.refl _)).lt
    obtain ⟨k1_0, k1_1, f1_0, f1_1⟩ := box2 A1 (Ext.refl _)
    have z1 := (A1.ext (Ext.refl _)).lt
    refine (nat_Compare _ _ _ _ _ _ _ _ _ (g.ext x0) (Raw.nil _)).mono ?_
    rintro e w1 ⟨rfl, hq1⟩
    rw [HC.out]
    obtain ⟨k0_0, k0_1, k0_2, f0_0, f0_1, f0_2⟩ := box3 A0 hq1.ext
    have z0 := (A0.ext hq1.ext).lt
    obtain ⟨k1_0, k1_1, f1_0, f1_1⟩ := box2 A1 hq1.ext
    have z1 := (A1.ext hq1.ext).lt
    go_wp2
    go_region
    go_wp2
    refine bodyPost_ret (v := .tuple #[.agg #[.bool s, .slice a k c], .slice b j d]) (by simp [results, Tryz.results132, go_sem, k1_0, k1_1]) rfl ?_
    have hx : Ext w ((w1.setCell ⟨w.heap.size + 1, 0, none⟩ (.bool s)).setCell ⟨w.heap.size + 1, 1, none⟩ (.slice a k c)).drew := (((x0.trans hq1.ext).setCell (by simp) _).setCell (by simp) _).drew
    exact ⟨s, a, k, c, n, b, j, d, m, rfl, h.ext hx, g.ext hx, by omega, rfl, Nat.le_refl _, by omega, hx⟩

set_option maxRecDepth 100000 in
/-- rational.small says no. -/
theorem rat_small_no (w : World) (s : Bool) (a b : Option Addr) (k c j d n m : Nat) (h : Raw w a k c n) (g : Raw w b j d m) (hbig : ¬ (n < 2147483648 ∧ m < 2147483648)) :
    Calls Tryz.prog 130 #[.agg #[.bool s, .slice a k c, .slice b j d]] w fun e w' => e = .returned (.tuple #[.int .i64 0, .int .i64 0, .bool false]) ∧ Ext w w' := by
  by_cases hn : n < 18446744073709551616
  · by_cases hm : m < 18446744073709551616
    · by_cases hn1 : n < 2147483648
      · have hm1 : (2147483648 : Int) ≤ (m : Int) := by omega
        have dn : decide ((2147483648 : Int) ≤ (n : Int)) = false := decide_eq_false (by omega)
        have HN := Lib.hid hn; have HN1 := Lib.hid hn1; clear hn1 hn
        clear hbig
        go_enter Tryz.func130, Tryz.ntmps130
        go_wp2_with fail
        refine (nat_Uint64_yes _ _ _ _ _ (h.ext ((Ext.refl _).alloc _)) HN.out).mono ?_
        rintro e w1 ⟨rfl, rfl⟩
        go_wp2_with fail
        refine (nat_Uint64_yes _ _ _ _ _ (g.ext ((Ext.refl _).alloc _)) hm).mono ?_
        rintro e w1 ⟨rfl, rfl⟩
        go_wp2
        go_ret3
        exact ⟨rfl, (Ext.refl _).alloc _⟩
      · have hn2 : (2147483648 : Int) ≤ (n : Int) := by omega
        clear hbig
        go_enter Tryz.func130, Tryz.ntmps130
        go_wp2_with fail
        refine (nat_Uint64_yes _ _ _ _ _ (h.ext ((Ext.refl _).alloc _)) hn).mono ?_
        rintro e w1 ⟨rfl, rfl⟩
        go_wp2_with fail
        refine (nat_Uint64_yes _ _ _ _ _ (g.ext ((Ext.refl _).alloc _)) hm).mono ?_
        rintro e w1 ⟨rfl, rfl⟩
        go_wp2
        go_ret3
        exact ⟨rfl, (Ext.refl _).alloc _⟩
    · clear hbig
      go_enter Tryz.func130, Tryz.ntmps130
      go_wp2_with fail
      refine (nat_Uint64_yes _ _ _ _ _ (h.ext ((Ext.refl _).alloc _)) hn).mono ?_
      rintro e w1 ⟨rfl, rfl⟩
      go_wp2_with fail
      refine (nat_Uint64_no _ _ _ _ _ (g.ext ((Ext.refl _).alloc _)) (by omega)).mono ?_
      rintro e w1 ⟨rfl, rfl⟩
      go_wp2
      go_ret3
      exact ⟨rfl, (Ext.refl _).alloc _⟩
  · clear hbig
    by_cases hm : m < 18446744073709551616
    · go_enter Tryz.func130, Tryz.ntmps130
      go_wp2_with fail
      refine (nat_Uint64_no _ _ _ _ _ (h.ext ((Ext.refl _).alloc _)) (by omega)).mono ?_
      rintro e w1 ⟨rfl, rfl⟩
      go_wp2_with fail
      refine (nat_Uint64_yes _ _ _ _ _ (g.ext ((Ext.refl _).alloc _)) hm).mono ?_
      rintro e w1 ⟨rfl, rfl⟩
      go_wp2
      go_ret3
      exact ⟨rfl, (Ext.refl _).alloc _⟩
    · go_enter Tryz.func130, Tryz.ntmps130
      go_wp2_with fail
      refine (nat_Uint64_no _ _ _ _ _ (h.ext ((Ext.refl _).alloc _)) (by omega)).mono ?_
      rintro e w1 ⟨rfl, rfl⟩
      go_wp2_with fail
      refine (nat_Uint64_no _ _ _ _ _ (g.ext ((Ext.refl _).alloc _)) (by omega)).mono ?_
      rintro e w1 ⟨rfl, rfl⟩
      go_wp2
      go_ret3
      exact ⟨rfl, (Ext.refl _).alloc _⟩

/-- What rational.small returns of a small number. -/
def SmallOf (s : Bool) (n m : Nat) (w : World) (e : Ending) (w' : World) : Prop := ∃ (x : Int) (y : Nat), e = .returned (.tuple #[.int .i64 x, .int .i64 (y : Nat), .bool true]) ∧
  -2147483648 < x ∧ x < 2147483648 ∧ 0 < y ∧ y < 2147483648 ∧ mkRat x y = mkRat (sgn s n) m ∧ Ext w w'

set_option maxRecDepth 100000 in
/-- rational.small says yes. -/
theorem rat_small (w : World) (s : Bool) (a b : Option Addr) (k c j d n m : Nat) (h : Raw w a k c n) (g : Raw w b j d m) (hn : n < 2147483648) (hm : m < 2147483648) :
    Calls Tryz.prog 130 #[.agg #[.bool s, .slice a k c, .slice b j d]] w (SmallOf s n m w) := by
  have dn : decide ((2147483648 : Int) ≤ (n : Int)) = false := decide_eq_false (by omega)
  have dm : decide ((2147483648 : Int) ≤ (m : Int)) = false := decide_eq_false (by omega)
  have hn3 : n < 3000000000 := by omega
  have hm3 : m < 3000000000 := by omega
  have HN := Lib.hid hn; have HM := Lib.hid hm; clear hn hm
  by_cases h0 : m = 0
  · subst h0
    go_enter Tryz.func130, Tryz.ntmps130
    go_wp2_with fail
    refine (nat_Uint64_yes _ _ _ _ _ (h.ext ((Ext.refl _).alloc _)) (by have := HN.out; omega)).mono ?_
    rintro e w1 ⟨rfl, rfl⟩
    go_wp2_with fail
    refine (nat_Uint64_yes _ _ _ _ _ (g.ext ((Ext.refl _).alloc _)) (by have := HM.out; omega)).mono ?_
    rintro e w1 ⟨rfl, rfl⟩
    go_wp2
    go_ret3
    exact ⟨0, 1, rfl, by omega, by omega, by omega, by omega, by simp, (Ext.refl _).alloc _⟩
  · have hm0 : ((m : Int) == 0) = false := by rw [beq_eq_false_iff_ne]; omega
    cases s
    · go_enter Tryz.func130, Tryz.ntmps130
      go_wp2_with fail
      refine (nat_Uint64_yes _ _ _ _ _ (h.ext ((Ext.refl _).alloc _)) (by have := HN.out; omega)).mono ?_
      rintro e w1 ⟨rfl, rfl⟩
      go_wp2_with fail
      refine (nat_Uint64_yes _ _ _ _ _ (g.ext ((Ext.refl _).alloc _)) (by have := HM.out; omega)).mono ?_
      rintro e w1 ⟨rfl, rfl⟩
      go_wp2
      go_ret3
      have hn := HN.out; have hm := HM.out
      exact ⟨n, m, rfl, by omega, by omega, by omega, by omega, rfl, (Ext.refl _).alloc _⟩
    · go_enter Tryz.func130, Tryz.ntmps130
      go_wp2_with fail
      refine (nat_Uint64_yes _ _ _ _ _ (h.ext ((Ext.refl _).alloc _)) (by have := HN.out; omega)).mono ?_
      rintro e w1 ⟨rfl, rfl⟩
      go_wp2_with fail
      refine (nat_Uint64_yes _ _ _ _ _ (g.ext ((Ext.refl _).alloc _)) (by have := HM.out; omega)).mono ?_
      rintro e w1 ⟨rfl, rfl⟩
      go_wp2
      go_ret3
      have hn := HN.out; have hm := HM.out
      exact ⟨-(n : Int), m, rfl, by omega, by omega, by omega, by omega, rfl, (Ext.refl _).alloc _⟩

end Go.Proofs.YtgihpfkjpfanmaaGreat
