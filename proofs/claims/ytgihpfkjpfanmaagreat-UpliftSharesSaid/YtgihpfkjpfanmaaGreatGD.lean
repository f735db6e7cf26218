/- Texts of the proof: Lehmer, NatW, NatH, NatG. -/
import Derived.Test.YtgihpfkjpfanmaaGreatGC
import Derived.Deep.LoopGhost
import Derived.Deep.DeepCutAuto
/- Plain facts for the greatest common divisor by leading digits (Lehmer; the condition of Collins and Jebelean). No program in sight. -/
namespace Go.Proofs.YtgihpfkjpfanmaaGreat

/-- The state of the simulated algorithm: two successive remainders of X and Y, and their cofactors. -/
structure Leh (X Y : Nat) (s : Int) (x y u1 u2 v1 v2 : Nat) : Prop where
  sg : s = 1 ∨ s = -1
  ex : (x : Int) = s * (u1 * X - v1 * Y)
  ey : (y : Int) = s * (v2 * Y - u2 * X)
  det : (u1 : Int) * v2 - u2 * v1 = s
  le : y ≤ x
  uv : u2 ≤ v2
  sum : u1 + u2 ≤ v1 + v2
  pos : 1 ≤ v2

theorem Leh.start {X Y : Nat} (h : Y ≤ X) : Leh X Y 1 X Y 1 0 0 1 :=
  ⟨Or.inl rfl, by simp, by simp, by simp, h, by omega, by omega, by omega⟩

theorem Leh.big {X Y : Nat} {s : Int} {x y u1 u2 v1 v2 : Nat} (h : Leh X Y s x y u1 u2 v1 v2) : v2 * x + v1 * y = X ∧ u2 * x + u1 * y = Y := by
  obtain ⟨hs, ex, ey, det, -, -, -, -⟩ := h
  constructor
  · apply Int.ofNat.inj
    show ((v2 * x + v1 * y : Nat) : Int) = (X : Int)
    push_cast
    rw [ex, ey]
    rcases hs with rfl | rfl <;> grind
  · apply Int.ofNat.inj
    show ((u2 * x + u1 * y : Nat) : Int) = (Y : Int)
    push_cast
    rw [ex, ey]
    rcases hs with rfl | rfl <;> grind

theorem Leh.step {X Y : Nat} {s : Int} {x y u1 u2 v1 v2 : Nat} (h : Leh X Y s x y u1 u2 v1 v2) (h0 : 0 < y) : Leh X Y (-s) y (x % y) u2 (u1 + x / y * u2) v2 (v1 + x / y * v2) := by
  have hm : (x : Int) = (x / y : Nat) * y + (x % y : Nat) := by rw [← Int.natCast_mul, ← Int.natCast_add, Nat.div_add_mod']
  have hq : 1 ≤ x / y := (Nat.le_div_iff_mul_le h0).2 (by have := h.le; omega)
  have hr := Nat.mod_lt x h0
  obtain ⟨hs, ex, ey, det, -, uv, sum, pos⟩ := h
  generalize x / y = q at *
  generalize x % y = r at *
  have h1 : u2 * (q - 1) ≤ v2 * (q - 1) := Nat.mul_le_mul_right _ uv
  obtain ⟨k, rfl⟩ : ∃ k, q = k + 1 := ⟨q - 1, by omega⟩
  simp only [Nat.add_sub_cancel] at h1
  rw [Nat.mul_comm u2, Nat.mul_comm v2] at h1
  refine ⟨by omega, ?_, ?_, ?_, by omega, ?_, ?_, ?_⟩
  · rw [ey]; grind
  · have e : (r : Int) = x - ((k + 1 : Nat) : Int) * y := by omega
    rw [e, ex, ey]; push_cast; grind
  · push_cast; grind
  · rw [Nat.add_mul, Nat.add_mul, Nat.one_mul, Nat.one_mul]; omega
  · rw [Nat.add_mul, Nat.add_mul, Nat.one_mul, Nat.one_mul]; omega
  · rw [Nat.add_mul, Nat.one_mul]; omega

/-- What the cofactors make of the numbers themselves. -/
structure LehOut (a b : Nat) (even : Bool) (u0 v0 u1 v1 A B : Nat) : Prop where
  fst : if even then A + v0 * b = u0 * a else A + u0 * a = v0 * b
  snd : if even then B + u1 * a = v1 * b else B + v1 * b = u1 * a
  le : B ≤ A
  ea : a = v1 * A + v0 * B
  eb : b = u1 * A + u0 * B
  pos : 1 ≤ v1

theorem prod_le {x y E a1 : Int} (hx : 0 ≤ x) (hxy : x ≤ y) (ha : 0 ≤ a1) (hE : a1 ≤ E) : 0 ≤ x * a1 ∧ x * a1 ≤ y * E :=
  ⟨Int.mul_nonneg hx ha, Int.mul_le_mul hxy hE ha (by omega)⟩

theorem Leh.out {X Y a b E a1 b1 : Nat} {s : Int} {x y u1 u2 v1 v2 : Nat} (h : Leh X Y s x y u1 u2 v1 v2) (ha : a = X * E + a1) (hb : b = Y * E + b1) (ha1 : a1 < E) (hb1 : b1 < E)
    (c1 : v2 ≤ y) (c2 : v1 + v2 ≤ x - y) : ∃ A B, LehOut a b (decide (s = 1)) u1 v1 u2 v2 A B := by
  obtain ⟨hs, ex, ey, det, le, uv, sum, pos⟩ := h
  have ha' : (a : Int) = X * E + a1 := by exact_mod_cast ha
  have hb' : (b : Int) = Y * E + b1 := by exact_mod_cast hb
  have p1 := prod_le (x := (u2 : Int)) (y := v2) (E := E) (a1 := a1) (by omega) (by omega) (by omega) (by omega)
  have p2 := prod_le (x := (v2 : Int)) (y := v2) (E := E) (a1 := b1) (by omega) (by omega) (by omega) (by omega)
  have p3 := prod_le (x := ((u1 + u2 : Nat) : Int)) (y := ((v1 + v2 : Nat) : Int)) (E := E) (a1 := a1) (by omega) (by omega) (by omega) (by omega)
  have p4 := prod_le (x := ((v1 + v2 : Nat) : Int)) (y := ((v1 + v2 : Nat) : Int)) (E := E) (a1 := b1) (by omega) (by omega) (by omega) (by omega)
  have q1 : (v2 : Int) * E ≤ y * E := Int.mul_le_mul_of_nonneg_right (by omega) (by omega)
  have q2 : ((v1 + v2 : Nat) : Int) * E ≤ (x - y) * E := Int.mul_le_mul_of_nonneg_right (by omega) (by omega)
  have eB : s * (v2 * b - u2 * a) = y * E + s * (v2 * b1 - u2 * a1) := by rw [ha', hb', ey]; grind
  have eD : s * (u1 * a - v1 * b) - s * (v2 * b - u2 * a) = (x - y) * E + s * (((u1 + u2 : Nat) : Int) * a1 - ((v1 + v2 : Nat) : Int) * b1) := by rw [ha', hb', ex, ey]; push_cast; grind
  have hB : 0 ≤ s * (v2 * b - u2 * a) := by
    rw [eB]; rcases hs with rfl | rfl <;> omega
  have hD : 0 ≤ s * (u1 * a - v1 * b) - s * (v2 * b - u2 * a) := by
    rw [eD]; rcases hs with rfl | rfl <;> omega
  obtain ⟨B, eB'⟩ := Int.eq_ofNat_of_zero_le hB
  obtain ⟨A, eA'⟩ := Int.eq_ofNat_of_zero_le (show 0 ≤ s * (u1 * a - v1 * b) by omega)
  refine ⟨A, B, ?_, ?_, by omega, ?_, ?_, pos⟩
  · rcases hs with rfl | rfl
    · rw [if_pos (by decide)]
      apply Int.ofNat.inj
      show ((A + v1 * b : Nat) : Int) = ((u1 * a : Nat) : Int)
      push_cast; grind
    · rw [if_neg (by decide)]
      apply Int.ofNat.inj
      show ((A + u1 * a : Nat) : Int) = ((v1 * b : Nat) : Int)
      push_cast; grind
  · rcases hs with rfl | rfl
    · rw [if_pos (by decide)]
      apply Int.ofNat.inj
      show ((B + u2 * a : Nat) : Int) = ((v2 * b : Nat) : Int)
      push_cast; grind
    · rw [if_neg (by decide)]
      apply Int.ofNat.inj
      show ((B + v2 * b : Nat) : Int) = ((u2 * a : Nat) : Int)
      push_cast; grind
  · apply Int.ofNat.inj
    show ((a : Nat) : Int) = ((v2 * A + v1 * B : Nat) : Int)
    push_cast
    rw [← eA', ← eB']
    rcases hs with rfl | rfl <;> grind
  · apply Int.ofNat.inj
    show ((b : Nat) : Int) = ((u2 * A + u1 * B : Nat) : Int)
    push_cast
    rw [← eA', ← eB']
    rcases hs with rfl | rfl <;> grind

theorem LehOut.gcd {a b : Nat} {even : Bool} {u0 v0 u1 v1 A B : Nat} (h : LehOut a b even u0 v0 u1 v1 A B) : Nat.gcd A B = Nat.gcd a b := by
  obtain ⟨h1, h2, -, ea, eb, -⟩ := h
  apply Nat.dvd_antisymm
  · have d1 := Nat.gcd_dvd_left A B
    have d2 := Nat.gcd_dvd_right A B
    apply Nat.dvd_gcd
    · rw [ea]; exact Nat.dvd_add (Nat.dvd_mul_left_of_dvd d1 _) (Nat.dvd_mul_left_of_dvd d2 _)
    · rw [eb]; exact Nat.dvd_add (Nat.dvd_mul_left_of_dvd d1 _) (Nat.dvd_mul_left_of_dvd d2 _)
  · have d1 := Nat.gcd_dvd_left a b
    have d2 := Nat.gcd_dvd_right a b
    cases even
    · simp only [Bool.false_eq_true, if_false] at h1 h2
      apply Nat.dvd_gcd
      · exact (Nat.dvd_add_left (Nat.dvd_mul_left_of_dvd d1 u0)).1 (by rw [h1]; exact Nat.dvd_mul_left_of_dvd d2 _)
      · exact (Nat.dvd_add_left (Nat.dvd_mul_left_of_dvd d2 v1)).1 (by rw [h2]; exact Nat.dvd_mul_left_of_dvd d1 _)
    · simp only [if_true] at h1 h2
      apply Nat.dvd_gcd
      · exact (Nat.dvd_add_left (Nat.dvd_mul_left_of_dvd d2 v0)).1 (by rw [h1]; exact Nat.dvd_mul_left_of_dvd d1 _)
      · exact (Nat.dvd_add_left (Nat.dvd_mul_left_of_dvd d1 u1)).1 (by rw [h2]; exact Nat.dvd_mul_left_of_dvd d2 _)

/-- The numbers fall. -/
theorem LehOut.less {a b : Nat} {even : Bool} {u0 v0 u1 v1 A B : Nat} (h : LehOut a b even u0 v0 u1 v1 A B) (h0 : v0 ≠ 0) (hb : 0 < b) : A + B < a + b := by
  have := h.ea
  have h1 : A ≤ v1 * A := Nat.le_mul_of_pos_left _ h.pos
  have h2 : B ≤ v0 * B := Nat.le_mul_of_pos_left _ (by omega)
  omega

end Go.Proofs.YtgihpfkjpfanmaaGreat

/- Contracts of the program's natural.window and its closure. -/
namespace Go.Proofs.YtgihpfkjpfanmaaGreat
open Go.RowKit

theorem nat_window_limb (w : World) (p : Addr) (a : Option Addr) (k c i : Nat) (l : List Nat) (hp : w.cell? p = some (.slice a k c)) (hl : l.length = k) (h : Limbs w a c l) :
    Calls Tryz.prog 240 #[.int .i64 (i : Nat), .pointer (some p)] w fun e w' => e = .returned (.int .u64 (limb l i : Nat)) ∧ w = w' := by
  have h1 := h.le
  have h2 := h.short
  by_cases hi : i < k
  · obtain ⟨b, o, rfl⟩ := h.at (by omega)
    have hc := h.cellAt i (by omega)
    have hx := limb_lt h.small i
    have HL := Lib.hid hl; clear hl
    go_enter Tryz.func240, Tryz.ntmps240
    go_wp2
    go_ret
    exact ⟨rfl, rfl⟩
  · have HZ := Lib.hid (limb_ge (l := l) (i := i) (by omega))
    have HL := Lib.hid hl; clear hl
    go_enter Tryz.func240, Tryz.ntmps240
    go_wp2
    go_ret
    exact ⟨ret_int (by rw [HZ.out]; rfl), rfl⟩

/-- The upper 64 binary digits. -/
theorem win_val {l : List Nat} {n s : Nat} (hs : Small l) (hl : l.length ≤ n) (h3 : 3 ≤ n) (hlt : s < 32) :
    val l / 2 ^ (32 * (n - 2) - s) = (limb l (n - 2) + 4294967296 * limb l (n - 1)) * 2 ^ s + limb l (n - 3) / 2 ^ (32 - s) := by
  have e0 : val (l ++ List.replicate (n - l.length) 0) = val l := by rw [val_append, val_replicate, Nat.mul_zero, Nat.add_zero]
  have el : ∀ i, limb (l ++ List.replicate (n - l.length) 0) i = limb l i := by
    intro i
    by_cases hi : i < l.length
    · exact limb_append_left hi
    · rw [limb_ge (l := l) (by omega)]
      unfold limb
      rw [List.getElem?_append_right (by omega)]
      exact limb_replicate _ _
  have sl : Small (l ++ List.replicate (n - l.length) 0) := hs.append (Small.replicate _)
  have ll : (l ++ List.replicate (n - l.length) 0).length = n := by simp; omega
  generalize l ++ List.replicate (n - l.length) 0 = X at *
  have e1 := val_top3 (X := X) (t := n - 3) (by omega)
  have hlo := val_take_lt sl (t := n - 3) (by omega)
  rw [el, el, el, show n - 3 + 1 = n - 2 from by omega, show n - 3 + 2 = n - 1 from by omega] at e1
  rw [← e0, show 32 * (n - 2) - s = 32 * (n - 3) + (32 - s) from by omega, Nat.pow_add, ← Nat.div_div_eq_div_mul, ← pow_eq, e1, Nat.add_mul_div_left _ _ (Nat.pow_pos (by decide)), Nat.div_eq_of_lt hlo, Nat.zero_add]
  have e2 : ∀ Z, 4294967296 * Z = 2 ^ (32 - s) * (Z * 2 ^ s) := by
    intro Z
    rw [Nat.mul_left_comm, ← Nat.pow_add, show 32 - s + s = 32 from by omega, Nat.mul_comm]
  rw [e2 (limb l (n - 2) + 4294967296 * limb l (n - 1)), Nat.add_mul_div_left _ _ (Nat.two_pow_pos _), Nat.add_comm]

theorem win_or {l : List Nat} {n s : Nat} (hs : Small l) (hl : l.length ≤ n) (h3 : 3 ≤ n) (hlt : s < 32) (hb : val l < 2 ^ (32 * n - s)) :
    bits BinOp.or IntKind.u64 (IntKind.u64.wrap (((limb l (n - 2) + 4294967296 * limb l (n - 1) : Nat) : Int) * 2 ^ s)) (((limb l (n - 3) : Nat) : Int) / 2 ^ (32 - s)) = ((val l / 2 ^ (32 * (n - 2) - s) : Nat) : Int) ∧ val l / 2 ^ (32 * (n - 2) - s) < 18446744073709551616 := by
  have e := win_val hs hl h3 hlt
  have hv : val l / 2 ^ (32 * (n - 2) - s) < 18446744073709551616 := by
    rw [Nat.div_lt_iff_lt_mul (Nat.two_pow_pos _), show (18446744073709551616 : Nat) = 2 ^ 64 from by decide, ← Nat.pow_add, show 64 + (32 * (n - 2) - s) = 32 * n - s from by omega]
    exact hb
  refine ⟨?_, hv⟩
  rw [e] at hv ⊢
  have hx := limb_lt hs (n - 3)
  have h5 : limb l (n - 3) / 2 ^ (32 - s) < 2 ^ s := by
    rw [Nat.div_lt_iff_lt_mul (Nat.two_pow_pos _), ← Nat.pow_add, show s + (32 - s) = 32 from by omega]; exact hx
  have e2 : (((limb l (n - 3) : Nat) : Int) / 2 ^ (32 - s)) = ((limb l (n - 3) / 2 ^ (32 - s) : Nat) : Int) := by rw [Int.natCast_ediv, Int.natCast_pow]; rfl
  have e3 : (((limb l (n - 2) + 4294967296 * limb l (n - 1) : Nat) : Int) * 2 ^ s) = (((limb l (n - 2) + 4294967296 * limb l (n - 1)) * 2 ^ s : Nat) : Int) := by rw [Int.natCast_mul, Int.natCast_pow]; rfl
  rw [e2, e3]
  generalize limb l (n - 2) + 4294967296 * limb l (n - 1) = y at *
  generalize limb l (n - 3) / 2 ^ (32 - s) = z at *
  have e4 : IntKind.u64.wrap ((y * 2 ^ s : Nat) : Int) = ((y * 2 ^ s : Nat) : Int) := by
    rw [IntKind.wrap_u64]
    generalize y * 2 ^ s = t at *
    omega
  rw [e4, u64_or_nat _ _ (by omega) (by omega)]
  have := Nat.shiftLeft_add_eq_or_of_lt h5 y
  rw [Nat.shiftLeft_eq] at this
  rw [← this]

set_option maxHeartbeats 1000000 in
set_option maxRecDepth 100000 in
theorem nat_window (w : World) (a : Option Addr) (k c m n s : Nat) (h : Raw w a k c m) (hk : k ≤ n) (hn : n < 1000000000) (h3 : 3 ≤ n) (hs : s < 32) (hb : m < 2 ^ (32 * n - s)) :
    Calls Tryz.prog 236 #[.slice a k c, .int .i64 (n : Nat), .int .i64 (s : Nat)] w fun e w' => e = .returned (.int .u64 (m / 2 ^ (32 * (n - 2) - s) : Nat)) ∧ Ext w w' := by
  obtain ⟨l, hl, hv, hA⟩ := h
  rw [← hv] at hb
  have HW := Lib.hid (win_or hA.small (by omega) h3 hs hb)
  have b1 := limb_lt hA.small (n - 1)
  have b2 := limb_lt hA.small (n - 2)
  have b3 := limb_lt hA.small (n - 3)
  have HL := Lib.hid hl; have HV := Lib.hid hv; clear hl hv hb
  go_enter Tryz.func236, Tryz.ntmps236
  go_wp2_with fail
  have hx0 : Ext w (w.alloc (Obj.cells #[Value.slice a k c] 51)) := (Ext.refl _).alloc _
  have hcell : (w.alloc (Obj.cells #[Value.slice a k c] 51)).cell? ⟨w.heap.size, 0, none⟩ = some (.slice a k c) := (Arr.alloc w 51 [.slice a k c]).cell 0
  generalize w.alloc (Obj.cells #[Value.slice a k c] 51) = W at hx0 hcell ⊢
  have cl : ∀ q i : Nat, Calls Tryz.prog 240 #[.int .i64 (i : Nat), .pointer (some ⟨w.heap.size, 0, none⟩)] (W.drewN q) fun e w' => e = .returned (.int .u64 (limb l i : Nat)) ∧ w' = W.drewN q := by
    intro q i
    exact (nat_window_limb (W.drewN q) ⟨w.heap.size, 0, none⟩ a k c i l (by rw [← hcell]; rfl) HL.out ((hA.ext hx0).ext ((Ext.refl _).drewN q))).mono (fun e w' ⟨h1, h2⟩ => ⟨h1, h2.symm⟩)
  have CL := Lib.hid cl; clear cl
  have e1 : IntKind.i64.wrap ((n : Int) - 1) = ((n - 1 : Nat) : Int) := by rw [IntWalk.i64_in _ (by omega)]; omega
  have e2 : IntKind.i64.wrap ((n : Int) - 2) = ((n - 2 : Nat) : Int) := by rw [IntWalk.i64_in _ (by omega)]; omega
  have e3 : IntKind.i64.wrap ((n : Int) - 3) = ((n - 3 : Nat) : Int) := by rw [IntWalk.i64_in _ (by omega)]; omega
  have e4 : IntKind.i64.wrap (32 - (s : Int)) = ((32 - s : Nat) : Int) := by rw [IntWalk.i64_in _ (by omega)]; omega
  have hor := or_lo (limb l (n - 1)) (limb l (n - 2)) b1 b2
  go_quiet ((go_at_call 240; exact Calls.quiet_of_same (CL.out _ _)))
  clear e1 e2 e3 e4
  go_wp2_with fail
  go_ret
  refine ⟨ret_int ?_, hx0.drewN _⟩
  have hW := HW.out.1
  rw [HV.out] at hW
  simp only [Int.natCast_add, Int.natCast_mul] at hW
  exact hW

set_option maxHeartbeats 400000 in
theorem nat_combine (w : World) (a b : Option Addr) (k k' c c' n m x y : Nat) (ha : Raw w a k c n) (hb : Raw w b k' c' m) (h1 : len n < 900000000) (h2 : len m < 900000000) (hx : x < 18446744073709551616) (hy : y < 18446744073709551616) (hle : m * y ≤ n * x) :
    Calls Tryz.prog 231 #[.slice a k c, .int .u64 (x : Nat), .slice b k' c', .int .u64 (y : Nat)] w (NewNat (n * x - m * y) w) := by
  have lx := len_le_two.2 hx
  have ly := len_le_two.2 hy
  go_enter Tryz.func231, Tryz.ntmps231
  go_wp2_with fail
  refine (nat_FromUint64 _ _ hx).mono ?_
  rintro e w1 ⟨a1, c1, rfl, r1, f1, x1⟩
  go_wp2_with fail
  refine (nat_Mul _ _ _ _ _ _ _ _ _ (ha.ext x1) r1 (by omega) (by omega)).mono ?_
  rintro e w2 ⟨a2, c2, rfl, r2, f2, x2⟩
  go_wp2_with fail
  refine (nat_FromUint64 _ _ hy).mono ?_
  rintro e w3 ⟨a3, c3, rfl, r3, f3, x3⟩
  go_wp2_with fail
  refine (nat_Mul _ _ _ _ _ _ _ _ _ (((hb.ext x1).ext x2).ext x3) r3 (by omega) (by omega)).mono ?_
  rintro e w4 ⟨a4, c4, rfl, r4, f4, x4⟩
  go_wp2_with fail
  refine (nat_Sub _ _ _ _ _ _ _ _ _ ((r2.ext x3).ext x4) r4 hle).mono ?_
  rintro e w5 ⟨a5, c5, rfl, r5, f5, x5⟩
  go_wp2_with fail
  go_ret
  have hx4 := (((x1.trans x2).trans x3).trans x4)
  exact ⟨_, _, rfl, r5, f5.mono hx4.size, hx4.trans x5⟩
end Go.Proofs.YtgihpfkjpfanmaaGreat

/- Contract of the program's natural.leading. -/
namespace Go.Proofs.YtgihpfkjpfanmaaGreat
open Go.RowKit

theorem box5 {W w1 : World} {b : Nat} {T : TypeId} {v0 v1 v2 v3 v4 : Value} (h : Arr W b T [v0, v1, v2, v3, v4]) (hx : Ext W w1) :
    (w1.cell? ⟨b, 0, none⟩ = some v0 ∧ w1.cell? ⟨b, 1, none⟩ = some v1 ∧ w1.cell? ⟨b, 2, none⟩ = some v2 ∧ w1.cell? ⟨b, 3, none⟩ = some v3 ∧ w1.cell? ⟨b, 4, none⟩ = some v4) ∧ w1.frozen? ⟨b, 0, none⟩ = false ∧ w1.frozen? ⟨b, 1, none⟩ = false ∧ w1.frozen? ⟨b, 2, none⟩ = false ∧ w1.frozen? ⟨b, 3, none⟩ = false ∧ w1.frozen? ⟨b, 4, none⟩ = false :=
  ⟨⟨(h.ext hx).cell 0, (h.ext hx).cell 1, (h.ext hx).cell 2, (h.ext hx).cell 3, (h.ext hx).cell 4⟩, (h.ext hx).frozen 0, (h.ext hx).frozen 1, (h.ext hx).frozen 2, (h.ext hx).frozen 3, (h.ext hx).frozen 4⟩

theorem Touch.five {lo hi b : Nat} (w : World) (h1 : lo ≤ b) (h2 : b < hi) (v0 v1 v2 v3 v4 : Value) : Touch lo hi w (((((w.setCell ⟨b, 0, none⟩ v0).setCell ⟨b, 1, none⟩ v1).setCell ⟨b, 2, none⟩ v2).setCell ⟨b, 3, none⟩ v3).setCell ⟨b, 4, none⟩ v4) :=
  (((((Touch.refl _ _ _).setCell h1 h2 _).setCell h1 h2 _).setCell h1 h2 _).setCell h1 h2 _).setCell h1 h2 _

/-- The sign of a step. -/
def sg (ev : Bool) : Int := if ev then -1 else 1
theorem sg_not (ev : Bool) : - sg ev = sg (!ev) := by cases ev <;> rfl
theorem sg_one (ev : Bool) : decide (sg ev = 1) = !ev := by cases ev <;> rfl

/-- What leading returns. -/
def LeadOf (n m : Nat) (w : World) (e : Ending) (w' : World) : Prop :=
  ∃ (u0 u1 v0 v1 : Nat) (ev : Bool), e = .returned (.agg #[.int .u64 u0, .int .u64 u1, .int .u64 v0, .int .u64 v1, .bool ev]) ∧ u0 < 18446744073709551616 ∧ u1 < 18446744073709551616 ∧ v0 < 18446744073709551616 ∧ v1 < 18446744073709551616 ∧ (v0 = 0 ∨ ∃ A B, LehOut n m ev u0 v0 u1 v1 A B) ∧ Ext w w'

theorem top_bound {n : Nat} {l : List Nat} (hs : Small l) (hl : l.length = len n) (hv : val l = n) (h0 : 0 < len n) : n < 2 ^ (32 * len n - lz (limb l (len n - 1))) ∧ lz (limb l (len n - 1)) < 32 := by
  have hx := limb_lt hs (len n - 1)
  have ht := top_ne_zero hs (by omega) (by rw [hv, hl])
  rw [hl] at ht
  obtain ⟨z1, z2, z3⟩ := lz_bounds (x := limb l (len n - 1)) (by omega) hx
  have hmv : n = val (l.take (len n - 1)) + 4294967296 ^ (len n - 1) * limb l (len n - 1) := by
    have := val_take_succ (l := l) (k := len n - 1) (by omega)
    rw [show len n - 1 + 1 = l.length from by omega, List.take_length, hv] at this
    exact this
  have htl := val_take_lt hs (t := len n - 1) (by omega)
  obtain ⟨nt1, nt2⟩ := norm_top hmv htl z1 z2 z3
  rw [show len n - 1 + 1 = len n from by omega, pow_eq] at nt1
  refine ⟨?_, z1⟩
  generalize lz (limb l (len n - 1)) = s at *
  have e : 2 ^ (32 * len n) = 2 ^ (32 * len n - s) * 2 ^ s := by rw [← Nat.pow_add]; congr 1; omega
  rw [e] at nt1
  exact Nat.lt_of_mul_lt_mul_right nt1

set_option maxHeartbeats 2000000 in
set_option maxRecDepth 100000 in
theorem nat_leading (w : World) (a b : Option Addr) (c c' n m : Nat) (ha : Raw w a (len n) c n) (hb : Raw w b (len m) c' m) (h3 : 3 ≤ len n) (hle : m ≤ n) (hs : len n < 900000000) :
    Calls Tryz.prog 230 #[.slice a (len n) c, .slice b (len m) c'] w (LeadOf n m w) := by
  have hlm := len_mono hle
  have la := ha.le
  obtain ⟨l, hl, hv, hA⟩ := id ha
  obtain ⟨pa, oa, rfl⟩ := hA.at (by omega)
  have hx := limb_lt hA.small (len n - 1)
  have ht := top_ne_zero hA.small (by omega) (by rw [hv, hl])
  rw [hl] at ht
  obtain ⟨tb, z1⟩ := top_bound hA.small hl hv (by omega)
  have hlz := fun W => bits_LeadingZeros32 (limb l (len n - 1)) W (by omega) hx
  have HL := Lib.hid hl; have HV := Lib.hid hv
  clear hl hv
  generalize lz (limb l (len n - 1)) = s at tb z1 hlz
  have HTB := Lib.hid tb; have HLZ := Lib.hid hlz
  clear tb hlz
  have hwA : ∀ V, Ext w V → Calls Tryz.prog 236 #[.slice (some ⟨pa, oa, none⟩) (len n) c, .int .i64 (len n : Nat), .int .i64 (s : Nat)] V fun e w' => e = .returned (.int .u64 (n / 2 ^ (32 * (len n - 2) - s) : Nat)) ∧ Ext V w' := fun V hV => nat_window _ _ _ _ _ _ _ (ha.ext hV) (Nat.le_refl _) (by omega) h3 z1 HTB.out
  have hwB : ∀ V, Ext w V → Calls Tryz.prog 236 #[.slice b (len m) c', .int .i64 (len n : Nat), .int .i64 (s : Nat)] V fun e w' => e = .returned (.int .u64 (m / 2 ^ (32 * (len n - 2) - s) : Nat)) ∧ Ext V w' := fun V hV => nat_window _ _ _ _ _ _ _ (hb.ext hV) hlm (by omega) h3 z1 (Nat.lt_of_le_of_lt hle HTB.out)
  have hE0 : 0 < 2 ^ (32 * (len n - 2) - s) := Nat.two_pow_pos _
  have hXb : n / 2 ^ (32 * (len n - 2) - s) < 18446744073709551616 := by
    rw [Nat.div_lt_iff_lt_mul hE0, show (18446744073709551616 : Nat) = 2 ^ 64 from by decide, ← Nat.pow_add, show 64 + (32 * (len n - 2) - s) = 32 * len n - s from by omega]
    exact HTB.out
  have hYX : m / 2 ^ (32 * (len n - 2) - s) ≤ n / 2 ^ (32 * (len n - 2) - s) := Nat.div_le_div_right hle
  have hna := (Nat.div_add_mod' n (2 ^ (32 * (len n - 2) - s))).symm
  have hmb := (Nat.div_add_mod' m (2 ^ (32 * (len n - 2) - s))).symm
  have hna1 := Nat.mod_lt n hE0
  have hmb1 := Nat.mod_lt m hE0
  generalize n / 2 ^ (32 * (len n - 2) - s) = X at *
  generalize m / 2 ^ (32 * (len n - 2) - s) = Y at *
  have hout : ∀ (sx : Int) (x y u1 u2 v1 v2 : Nat), Leh X Y sx x y u1 u2 v1 v2 → v2 ≤ y → v1 + v2 ≤ x - y → ∃ A B, LehOut n m (decide (sx = 1)) u1 v1 u2 v2 A B := fun _ _ _ _ _ _ _ h c1 c2 => h.out hna hmb hna1 hmb1 c1 c2
  have HO := Lib.hid hout; have HA := Lib.hid hwA; have HB := Lib.hid hwB
  clear hout hwA hwB hna hmb hna1 hmb1 hE0
  go_enter Tryz.func230, Tryz.ntmps230
  go_upto_region 1 with fail
  obtain ⟨W, hW, x0, Z0, A0⟩ := boxes1 w 241 [.int .u64 0, .int .u64 0, .int .u64 0, .int .u64 0, .bool false]
  rw [← hW]
  clear hW
  have hc := (hA.ext x0).cellAt (len n - 1) (by rw [HL.out]; omega)
  go_wp2_with fail
  refine (HLZ.out W).mono ?_
  rintro e w' ⟨rfl, rfl⟩
  go_wp2_with fail
  refine (HA.out _ x0).mono ?_
  rintro e w1 ⟨rfl, hx1⟩
  go_wp2_with fail
  refine (HB.out _ (x0.trans hx1)).mono ?_
  rintro e w2 ⟨rfl, hx2⟩
  have hx12 := hx1.trans hx2
  go_wp2_with fail
  go_loopw [7, 8, 9, 10, 11, 12, 13, 14, 15] (fun a7 a8 a9 a10 a11 a12 a13 a14 a15 wr => ∃ (x y u0 u1 u2 v0 v1 v2 : Nat) (ev : Bool), x < 18446744073709551616 ∧ y < 18446744073709551616 ∧ u0 < 18446744073709551616 ∧ u1 < 18446744073709551616 ∧ u2 < 18446744073709551616 ∧ v0 < 18446744073709551616 ∧ v1 < 18446744073709551616 ∧ v2 < 18446744073709551616 ∧ Hid (Leh X Y (sg ev) x y u1 u2 v1 v2) ∧ Hid (v0 = 0 ∨ ∃ A B, LehOut n m ev u0 v0 u1 v1 A B) ∧ Quiet w2 wr ∧
      a7 = .int .u64 x ∧ a8 = .int .u64 y ∧ a9 = .int .u64 u0 ∧ a10 = .int .u64 u1 ∧ a11 = .int .u64 u2 ∧ a12 = .int .u64 v0 ∧ a13 = .int .u64 v1 ∧ a14 = .int .u64 v2 ∧ a15 = .bool ev) (fun _ a8 _ _ _ _ _ _ _ _ => (intOf a8).toNat)
  case atStart => exact ⟨X, Y, 0, 1, 0, 0, 0, 1, false, hXb, by omega, by omega, by omega, by omega, by omega, by omega, by omega, Leh.start hYX, Or.inl rfl, Quiet.refl _, rfl, rfl, rfl, rfl, rfl, rfl, rfl, rfl, rfl⟩
  case round =>
    obtain ⟨x, y, u0, u1, u2, v0, v1, v2, ev, k1, k2, k3, k4, k5, k6, k7, k8, hL, hO, hq, rfl, rfl, rfl, rfl, rfl, rfl, rfl, rfl, rfl⟩ := hrel
    have hyx := hL.out.le
    by_cases c1 : v2 ≤ y
    · have hbig := hL.out.big.1
      have hv2 := hL.out.pos
      have hsum : v1 + v2 ≤ X := by
        rw [← hbig]
        have h1 : v2 * 1 ≤ v2 * x := Nat.mul_le_mul_left _ (by omega)
        have h2 : v1 * 1 ≤ v1 * y := Nat.mul_le_mul_left _ (by omega)
        omega
      clear hbig
      by_cases c2 : v1 + v2 ≤ x - y
      · have d1 : decide ((v2 : Int) ≤ (y : Int)) = true := by simp; exact c1
        have d2 : decide ((v1 : Int) + (v2 : Int) ≤ (x : Int) - (y : Int)) = true := by simp; omega
        have hy0 : 0 < y := by omega
        have hst := hL.out.step hy0
        have hlt := Nat.mod_lt x hy0
        have hql : x / y ≤ x := Nat.div_le_self _ _
        have hb2 := hst.big.1
        have huv := hst.uv
        have ho := HO.out _ _ _ _ _ _ _ hL.out c1 c2
        rw [sg_one] at ho
        rw [sg_not] at hst
        have eq1 : (x : Int) / (y : Int) = ((x / y : Nat) : Int) := by rw [Int.natCast_ediv]
        have er1 : (x : Int) % (y : Int) = ((x % y : Nat) : Int) := by rw [Int.natCast_emod]
        generalize x / y = q at *
        generalize x % y = r at *
        have eq2 : IntKind.u64.wrap ((x : Int) / (y : Int)) = (q : Int) := by rw [eq1, IntKind.wrap_u64]; omega
        have er2 : (x : Int).tmod (y : Int) = (r : Int) := by rw [Int.tmod_eq_emod_of_nonneg (by omega), er1]
        have hv3 : v1 + q * v2 ≤ X := by
          rw [← hb2]
          have h1 : (v1 + q * v2) * 1 ≤ (v1 + q * v2) * y := Nat.mul_le_mul_left _ (by omega)
          omega
        clear hb2
        have m1 : (q : Int) * (v2 : Int) ≤ 18446744073709551615 := by rw [← Int.natCast_mul]; omega
        have m2 : 0 ≤ (q : Int) * (v2 : Int) := by rw [← Int.natCast_mul]; omega
        have m3 : (q : Int) * (u2 : Int) ≤ 18446744073709551615 := by rw [← Int.natCast_mul]; omega
        have m4 : 0 ≤ (q : Int) * (u2 : Int) := by rw [← Int.natCast_mul]; omega
        have m5 : (v1 : Int) + (q : Int) * (v2 : Int) ≤ 18446744073709551615 := by rw [← Int.natCast_mul]; omega
        have m6 : (u1 : Int) + (q : Int) * (u2 : Int) ≤ 18446744073709551615 := by rw [← Int.natCast_mul]; omega
        have m7 : u1 + q * u2 < 18446744073709551616 := by omega
        have m8 : v1 + q * v2 < 18446744073709551616 := by omega
        have HST := Lib.hid hst; have HOO := Lib.hid ho
        clear hst ho huv hv3
        have y1 : (1 : Int) ≤ (y : Int) := by omega
        have y2 : ((y : Int) == 0) = false := by rw [beq_eq_false_iff_ne]; omega
        have y3 : ((y : Nat) : Int) ≠ 0 := by omega
        go_wp2_with fail
        go_quiet (fail)
        go_wp2_with fail
        refine ⟨⟨y, r, u1, u2, u1 + q * u2, v1, v2, v1 + q * v2, !ev, k2, by omega, k4, k5, m7, k7, k8, m8, HST, Or.inr HOO.out, hq.drewN _, rfl, rfl, rfl, rfl, ?_, rfl, rfl, ?_, rfl⟩, ?_⟩
        · rw [Int.natCast_add, Int.natCast_mul]
        · rw [Int.natCast_add, Int.natCast_mul]
        · simp [intOf]; omega
      · have d1 : decide ((v2 : Int) ≤ (y : Int)) = true := by simp; exact c1
        have d2 : decide ((v1 : Int) + (v2 : Int) ≤ (x : Int) - (y : Int)) = false := by simp; omega
        obtain ⟨⟨b0, b1, b2, b3, b4⟩, f0, f1, f2, f3, f4⟩ := box5 A0 (hx12.trans hq.ext)
        have zz := (A0.ext (hx12.trans hq.ext)).lt
        go_wp2_with fail
        exact bodyPost_ret (v := .agg #[.int .u64 u0, .int .u64 u1, .int .u64 v0, .int .u64 v1, .bool ev]) (by simp [results, Tryz.results230, go_sem, b0, b1, b2, b3, b4]) rfl ⟨u0, u1, v0, v1, ev, rfl, k3, k4, k6, k7, hO.out, x0.touch (hx12.trans hq.ext) (Touch.five _ (Nat.le_refl _) (by rw [Z0.out]; omega) _ _ _ _ _)⟩
    · have d2 : decide ((v2 : Int) ≤ (y : Int)) = false := by simp; omega
      obtain ⟨⟨b0, b1, b2, b3, b4⟩, f0, f1, f2, f3, f4⟩ := box5 A0 (hx12.trans hq.ext)
      have zz := (A0.ext (hx12.trans hq.ext)).lt
      go_wp2_with fail
      exact bodyPost_ret (v := .agg #[.int .u64 u0, .int .u64 u1, .int .u64 v0, .int .u64 v1, .bool ev]) (by simp [results, Tryz.results230, go_sem, b0, b1, b2, b3, b4]) rfl ⟨u0, u1, v0, v1, ev, rfl, k3, k4, k6, k7, hO.out, x0.touch (hx12.trans hq.ext) (Touch.five _ (Nat.le_refl _) (by rw [Z0.out]; omega) _ _ _ _ _)⟩
end Go.Proofs.YtgihpfkjpfanmaaGreat

/- natural.GCD. -/
namespace Go.Proofs.YtgihpfkjpfanmaaGreat
open Go.RowKit

/-- The two numbers at the head of the loop. -/
def GcdAt (g n m : Nat) (w : World) (s0 s1 : Value) (wr : World) : Prop :=
  ∃ (A B : Nat) (a b : Option Addr) (c c' : Nat), A + B ≤ g ∧ B ≤ A ∧ Nat.gcd A B = Nat.gcd n m ∧ len A < 400000000 ∧ Raw wr a (len A) c A ∧ Raw wr b (len B) c' B ∧ Ext w wr ∧ s0 = .slice a (len A) c ∧ s1 = .slice b (len B) c'

set_option maxHeartbeats 4000000 in
set_option maxRecDepth 100000 in
theorem nat_GCD (w : World) (a b : Option Addr) (k k' c c' n m : Nat) (ha : Raw w a k c n) (hb : Raw w b k' c' m) (h1 : len n < 400000000) (h2 : len m < 400000000) :
    Calls Tryz.prog 219 #[.slice a k c, .slice b k' c'] w (NewNat (Nat.gcd n m) w) := by
  have ha' := ha.cut
  have hb' := hb.cut
  go_enter Tryz.func219, Tryz.ntmps219
  go_wp2_with fail
  refine (nat_cut _ _ _ _ _ ha).mono ?_
  rintro e w' ⟨rfl, rfl⟩
  go_wp2_with fail
  refine (nat_cut _ _ _ _ _ hb).mono ?_
  rintro e w' ⟨rfl, rfl⟩
  go_wp2_with fail
  refine (nat_Compare _ _ _ _ _ _ _ _ _ ha' hb').mono ?_
  rintro e w0 ⟨rfl, hq0⟩
  have hq := hq0.ext
  go_upto_if 18 with fail
  go_cut [0, 1] (fun s0 s1 wx => GcdAt (n + m) n m w s0 s1 wx)
  case first =>
    by_cases hlt : n < m
    · have hc : cmpN n m = -1 := by unfold cmpN; rw [if_pos hlt]
      rw [hc]; clear hc
      go_wp2_with fail
      go_meet
      exact ⟨m, n, b, a, c', c, by omega, by omega, Nat.gcd_comm _ _, h2, hb'.ext hq, ha'.ext hq, hq, rfl, rfl⟩
    · have hc : 0 ≤ cmpN n m := by unfold cmpN; rw [if_neg (by omega)]; split <;> decide
      go_wp2_with fail
      go_meet
      exact ⟨n, m, a, b, c, c', by omega, by omega, rfl, h1, ha'.ext hq, hb'.ext hq, hq, rfl, rfl⟩
  case rest =>
    have HC := Lib.hid hcut
    clear hcut
    go_wp2_with fail
    go_loopg [0, 1] (n + m) (fun g s0 s1 wr => GcdAt g n m w s0 s1 wr)
    case atStart => exact HC.out
    case round =>
      obtain ⟨A, B, a, b, c, c', hg, hBA, hgcd, hlA, rA, rB, hx, rfl, rfl⟩ := hrel
      have hlB := len_mono hBA
      have HGC := Lib.hid hgcd
      clear hgcd
      have lA := rA.le
      by_cases hB : B = 0
      · subst hB
        rw [len_zero]
        go_wp2_with fail
        refine (nat_Trim _ _ _ _ _ rA).mono ?_
        rintro e w1 ⟨a1, c1, rfl, r1, f1, x1⟩
        go_wp2_with fail
        go_ret
        have hg0 := HGC.out
        rw [Nat.gcd_zero_right] at hg0
        rw [← hg0]
        exact ⟨_, _, rfl, r1, f1.mono hx.size, hx.trans x1⟩
      · have pB := len_pos.2 (Nat.pos_of_ne_zero hB)
        by_cases h2 : len A ≤ 2
        · have hA64 := len_le_two.1 h2
          have hB64 := len_le_two.1 (Nat.le_trans hlB h2)
          go_wp2_with fail
          refine (nat_word _ _ _ _ _ rA h2).mono ?_
          rintro e w' ⟨rfl, rfl⟩
          go_wp2_with fail
          refine (nat_word _ _ _ _ _ rB (Nat.le_trans hlB h2)).mono ?_
          rintro e w' ⟨rfl, rfl⟩
          go_wp2_with fail
          obtain ⟨wo, rfl⟩ : ∃ wo : World, wo = wr := ⟨_, rfl⟩
          go_loopw [5, 6] (fun s5 s6 wr => ∃ x y : Nat, x < 18446744073709551616 ∧ y < 18446744073709551616 ∧ Hid (Nat.gcd x y = Nat.gcd n m) ∧ Quiet wo wr ∧ s5 = .int .u64 x ∧ s6 = .int .u64 y) (fun _ s6 _ => (intOf s6).toNat)
          case atStart => exact ⟨A, B, hA64, hB64, HGC, Quiet.refl _, rfl, rfl⟩
          case round =>
            obtain ⟨x, y, hx64, hy64, hgxy, hq, rfl, rfl⟩ := hrel
            by_cases hy : y = 0
            · subst hy
              go_wp2_with fail
              refine (nat_FromUint64 _ _ hx64).mono ?_
              rintro e w1 ⟨a1, c1, rfl, r1, f1, x1⟩
              go_wp2_with fail
              go_ret
              have hg0 := hgxy.out
              rw [Nat.gcd_zero_right] at hg0
              rw [← hg0]
              exact ⟨_, _, rfl, r1, f1.mono (Nat.le_trans hx.size hq.ext.size), (hx.trans hq.ext).trans x1⟩
            · have hyb : (((y : Nat) : Int) != 0) = true := by rw [bne_iff_ne]; omega
              have e3 : (x : Int).tmod (y : Int) = ((x % y : Nat) : Int) := by rw [Int.tmod_eq_emod_of_nonneg (by omega), Int.natCast_emod]
              have hyi : ((y : Int) == 0) = false := by rw [beq_eq_false_iff_ne]; omega
              have h1y : (1 : Int) ≤ (y : Int) := by omega
              have hlt := Nat.mod_lt x (Nat.pos_of_ne_zero hy)
              have hgg : Nat.gcd y (x % y) = Nat.gcd x y := by rw [Nat.gcd_comm y, ← Nat.gcd_rec, Nat.gcd_comm]
              have HG := Lib.hid hgg; clear hgg
              go_wp2_with fail
              go_quiet (fail)
              go_wp2_with fail
              go_roundw
              case rel => exact ⟨y, x % y, by omega, by omega, HG.out.trans hgxy.out, hq.drewN _, rfl, rfl⟩
              case measure => simp [intOf]; omega
        · go_wp2_with fail
          refine (nat_leading _ _ _ _ _ _ _ rA rB (by omega) hBA (by omega)).mono ?_
          rintro e w1 ⟨u0, u1, v0, v1, ev, rfl, k0, k1, k2, k3, hout, x1⟩
          have HO := Lib.hid hout; clear hout
          go_upto_region 11 with fail
          obtain ⟨W, hWe, x0, Z0, A0⟩ := boxes1 w1 241 [.int .u64 u0, .int .u64 u1, .int .u64 v0, .int .u64 v1, .bool ev]
          rw [← hWe]
          clear hWe
          have hW := x1.trans x0
          obtain ⟨⟨b0, b1, b2, b3, b4⟩, f0, f1, f2, f3, f4⟩ := box5 A0 (Ext.refl _)
          by_cases hv0 : v0 = 0
          · subst hv0
            go_wp2_with fail
            refine (nat_DivMod _ _ _ _ _ _ _ _ _ (rA.ext hW) (rB.ext hW) (Nat.pos_of_ne_zero hB) (by omega)).mono ?_
            rintro e w2 ⟨a2, c2, a3, c3, rfl, r2, f2, r3, f3, x2⟩
            have hlt := Nat.mod_lt A (Nat.pos_of_ne_zero hB)
            go_wp2_with fail
            go_roundg (B + A % B)
            case measure => omega
            case rel => exact ⟨B, A % B, b, a3, c', c3, Nat.le_refl _, by omega, by rw [← HGC.out, Nat.gcd_comm B, ← Nat.gcd_rec, Nat.gcd_comm], by omega, (rB.ext hW).ext x2, r3, (hx.trans hW).trans x2, rfl, rfl⟩
          · have hvb : (((v0 : Nat) : Int) == 0) = false := by rw [beq_eq_false_iff_ne]; omega
            obtain ⟨A1, B1, hO⟩ : ∃ A1 B1, LehOut A B ev u0 v0 u1 v1 A1 B1 := by
              rcases HO.out with h | h
              · exact absurd h hv0
              · exact h
            have hless := hO.less hv0 (Nat.pos_of_ne_zero hB)
            have hA1 : A1 ≤ A := by
              have h5 := hO.ea
              have h6 : A1 ≤ v1 * A1 := Nat.le_mul_of_pos_left _ hO.pos
              omega
            cases ev with
            | true =>
              have q1 : B * v0 ≤ A * u0 := by have := hO.fst; simp only [if_true] at this; rw [Nat.mul_comm B, Nat.mul_comm A]; omega
              have q2 : A * u1 ≤ B * v1 := by have := hO.snd; simp only [if_true] at this; rw [Nat.mul_comm B, Nat.mul_comm A]; omega
              have e1 : A * u0 - B * v0 = A1 := by have := hO.fst; simp only [if_true] at this; rw [Nat.mul_comm B, Nat.mul_comm A]; omega
              have e2 : B * v1 - A * u1 = B1 := by have := hO.snd; simp only [if_true] at this; rw [Nat.mul_comm B, Nat.mul_comm A]; omega
              have hc1 := fun V (hV : Ext wr V) => nat_combine V _ _ _ _ _ _ _ _ u0 v0 (rA.ext hV) (rB.ext hV) (by omega) (by omega) k0 k2 q1
              have hc2 := fun V (hV : Ext wr V) => nat_combine V _ _ _ _ _ _ _ _ v1 u1 (rB.ext hV) (rA.ext hV) (by omega) (by omega) k3 k1 q2
              rw [e1] at hc1
              rw [e2] at hc2
              have hlA1 := len_mono hA1
              have HC1 := Lib.hid hc1; have HC2 := Lib.hid hc2
              clear hc1 hc2 q1 q2 e1 e2
              have tok1 : True := trivial
              go_wp2_with fail
              go_region_held3 (fun w' => w'.cell? ⟨w1.heap.size, 0, none⟩ = some (.int .u64 u0) ∧ w'.cell? ⟨w1.heap.size, 1, none⟩ = some (.int .u64 u1) ∧ w'.cell? ⟨w1.heap.size, 2, none⟩ = some (.int .u64 v0) ∧ w'.cell? ⟨w1.heap.size, 3, none⟩ = some (.int .u64 v1)) (first | exact ⟨b0, b1, b2, b3⟩ | (simp [go_sem, b0, b1, b2, b3])) (first
                | (go_at_call 231; have _t := tok1; refine (HC1.out _ (hW.drew)).mono ?_; rintro e w2 ⟨a2, c2, rfl, r2, f2, x2⟩; clear tok1 _t; obtain ⟨⟨b0, b1, b2, b3, b4⟩, f0, f1, f2', f3, f4⟩ := box5 A0 ((Ext.refl _).drew.trans x2))
                | (go_at_call 231; refine (HC2.out _ (hW.drew.trans x2)).mono ?_; rintro e w3 ⟨a3, c3, rfl, r3, f3', x3⟩; obtain ⟨⟨b0, b1, b2, b3, b4⟩, f0, f1, f2', f3, f4⟩ := box5 A0 (((Ext.refl _).drew.trans x2).trans x3)))
              all_goals go_wp2_with fail
              all_goals go_roundg (A1 + B1)
              all_goals (first
                | (case measure => omega)
                | (case rel => exact ⟨A1, B1, a2, a3, c2, c3, Nat.le_refl _, hO.le, hO.gcd.trans HGC.out, by omega, r2.ext x3, r3, ((hx.trans hW).drew.trans x2).trans x3, rfl, rfl⟩))
            | false =>
              have q1 : A * u0 ≤ B * v0 := by have := hO.fst; simp only [Bool.false_eq_true, if_false] at this; rw [Nat.mul_comm B, Nat.mul_comm A]; omega
              have q2 : B * v1 ≤ A * u1 := by have := hO.snd; simp only [Bool.false_eq_true, if_false] at this; rw [Nat.mul_comm B, Nat.mul_comm A]; omega
              have e1 : B * v0 - A * u0 = A1 := by have := hO.fst; simp only [Bool.false_eq_true, if_false] at this; rw [Nat.mul_comm B, Nat.mul_comm A]; omega
              have e2 : A * u1 - B * v1 = B1 := by have := hO.snd; simp only [Bool.false_eq_true, if_false] at this; rw [Nat.mul_comm B, Nat.mul_comm A]; omega
              have hc1 := fun V (hV : Ext wr V) => nat_combine V _ _ _ _ _ _ _ _ v0 u0 (rB.ext hV) (rA.ext hV) (by omega) (by omega) k2 k0 q1
              have hc2 := fun V (hV : Ext wr V) => nat_combine V _ _ _ _ _ _ _ _ u1 v1 (rA.ext hV) (rB.ext hV) (by omega) (by omega) k1 k3 q2
              rw [e1] at hc1
              rw [e2] at hc2
              have hlA1 := len_mono hA1
              have HC1 := Lib.hid hc1; have HC2 := Lib.hid hc2
              clear hc1 hc2 q1 q2 e1 e2
              have tok1 : True := trivial
              go_wp2_with fail
              go_region_held3 (fun w' => w'.cell? ⟨w1.heap.size, 0, none⟩ = some (.int .u64 u0) ∧ w'.cell? ⟨w1.heap.size, 1, none⟩ = some (.int .u64 u1) ∧ w'.cell? ⟨w1.heap.size, 2, none⟩ = some (.int .u64 v0) ∧ w'.cell? ⟨w1.heap.size, 3, none⟩ = some (.int .u64 v1)) (first | exact ⟨b0, b1, b2, b3⟩ | (simp [go_sem, b0, b1, b2, b3])) (first
                | (go_at_call 231; have _t := tok1; refine (HC1.out _ (hW.drew)).mono ?_; rintro e w2 ⟨a2, c2, rfl, r2, f2, x2⟩; clear tok1 _t; obtain ⟨⟨b0, b1, b2, b3, b4⟩, f0, f1, f2', f3, f4⟩ := box5 A0 ((Ext.refl _).drew.trans x2))
                | (go_at_call 231; refine (HC2.out _ (hW.drew.trans x2)).mono ?_; rintro e w3 ⟨a3, c3, rfl, r3, f3', x3⟩; obtain ⟨⟨b0, b1, b2, b3, b4⟩, f0, f1, f2', f3, f4⟩ := box5 A0 (((Ext.refl _).drew.trans x2).trans x3)))
              all_goals go_wp2_with fail
              all_goals go_roundg (A1 + B1)
              all_goals (first
                | (case measure => omega)
                | (case rel => exact ⟨A1, B1, a2, a3, c2, c3, Nat.le_refl _, hO.le, hO.gcd.trans HGC.out, by omega, r2.ext x3, r3, ((hx.trans hW).drew.trans x2).trans x3, rfl, rfl⟩))
end Go.Proofs.YtgihpfkjpfanmaaGreat
