/- Texts of the proof: NatH, NatG, Rat3, Rat4, Rat5, Rat6. -/
import Derived.Test.YtgihpfkjpfanmaaGreatUEa3
import Derived.Deep.LoopGhost
import Derived.Deep.DeepCutAuto
/- Contract of the program's natural.leading. -/
namespace Go.Proofs.YtgihpfkjpfanmaaGreat
open Go.RowKit

theorem box5 {W w1 : World} {b : Nat} {T : TypeId} {v0 v1 v2 v3 v4 : Value} (h : Arr W b T [v0, v1, v2, v3, v4]) (hx : Ext W w1) :
    (w1.cell? ⟨b, 0, none⟩ = some v0 ∧ w1.cell? ⟨b, 1, none⟩ = some v1 ∧ w1.cell? ⟨b, 2, none⟩ = some v2 ∧ w1.cell? ⟨b, 3, none⟩ = some v3 ∧ w1.cell? ⟨b, 4, none⟩ = some v4) ∧ w1.frozen? ⟨b, 0, none⟩ = false ∧ w1.frozen? ⟨b, 1, none⟩ = false ∧ w1.frozen? ⟨b, 2, none⟩ = false ∧ w1.frozen? ⟨b, 3, none⟩ = false ∧ w1.frozen? ⟨b, 4, none⟩ = false :=
  ⟨⟨(h.ext hx).cell 0, (h.ext hx).cell 1, (h.ext hx).cell 2, (h.ext hx).cell 3, (h.ext hx).cell 4⟩, (h.ext hx).frozen 0, (h.ext hx).frozen 1, (h.ext hx).frozen 2, (h.ext hx).frozen 3, (h.ext hx).frozen 4⟩

theorem Touch.five {lo hi b : Nat} (w : World) (h1 : lo ≤ b) (h2 : b < hi) (v0 v1 v2 v3 v4 : Value) : Touch lo hi w (((((w.setCell ⟨b, 0, none⟩ v0).setCell ⟨b, 1, none⟩ v1).setCell ⟨b, 2, none⟩ v2).setCell ⟨b, 3, none⟩ v3).setCell ⟨b, 4, none⟩ v4) :=
  (((((Touch.refl _ _ _).setCell h1 h2 _).setCell h1 h2 _).setCell h1 h2 _).setCell h1 h2 _).setCell h1 h2 _

/-- The sign of a step. -/
def sg (ev : Bool) : Int := if ev then -1 else 1
theorem sg_not (ev : Bool) : - sg ev = sg (!ev) := by cases ev <;> rfl
theorem sg_one (ev : Bool) : decide (sg ev = 1) = !ev := by cases ev <;> rfl

/-- What leading returns. -/
def LeadOf (n m : Nat) (w : World) (e : Ending) (w' : World) : Prop :=
  ∃ (u0 u1 v0 v1 : Nat) (ev : Bool), e = .returned (.agg #[.int .u64 u0, .int .u64 u1, .int .u64 v0, .int .u64 v1, .bool ev]) ∧ u0 < 18446744073709551616 ∧ u1 < 18446744073709551616 ∧ v0 < 18446744073709551616 ∧ v1 < 18446744073709551616 ∧ (v0 = 0 ∨ ∃ A B, LehOut n m ev u0 v0 u1 v1 A B) ∧ Ext w w'

theorem top_bound {n : Nat} {l : List Nat} (hs : Small l) (hl : l.length = len n) (hv : val l = n) (h0 : 0 < len n) : n < 2 ^ (32 * len n - lz (limb l (len n - 1))) ∧ lz (limb l (len n - 1)) < 32 := by
  have hx := limb_lt hs (len n - 1)
  have ht := top_ne_zero hs (by omega) (by rw [hv, hl])
  rw [hl] at ht
  obtain ⟨z1, z2, z3⟩ := lz_bounds (x := limb l (len n - 1)) (by omega) hx
  have hmv : n = val (l.take (len n - 1)) + 4294967296 ^ (len n - 1) * limb l (len n - 1) := by
    have := val_take_succ (l := l) (k := len n - 1) (by omega)
    rw [show len n - 1 + 1 = l.length from by omega, List.take_length, hv] at this
    exact this
  have htl := val_take_lt hs (t := len n - 1) (by omega)
  obtain ⟨nt1, nt2⟩ := norm_top hmv htl z1 z2 z3
  rw [show len n - 1 + 1 = len n from by omega, pow_eq] at nt1
  refine ⟨?_, z1⟩
  generalize lz (limb l (len n - 1)) = s at *
  have e : 2 ^ (32 * len n) = 2 ^ (32 * len n - s) * 2 ^ s := by rw [← Nat.pow_add]; congr 1; omega
  rw [e] at nt1
  exact Nat.lt_of_mul_lt_mul_right nt1

set_option maxHeartbeats 2000000 in
set_option maxRecDepth 100000 in
theorem nat_leading (w : World) (a b : Option Addr) (c c' n m : Nat) (ha : Raw w a (len n) c n) (hb : Raw w b (len m) c' m) (h3 : 3 ≤ len n) (hle : m ≤ n) (hs : len n < 900000000) :
    Calls Tryz.prog 230 #[.slice a (len n) c, .slice b (len m) c'] w (LeadOf n m w) := by
  have hlm := len_mono hle
  have la := ha.le
  obtain ⟨l, hl, hv, hA⟩ := id ha
  obtain ⟨pa, oa, rfl⟩ := hA.at (by omega)
  have hx := limb_lt hA.small (len n - 1)
  have ht := top_ne_zero hA.small (by omega) (by rw [hv, hl])
  rw [hl] at ht
  obtain ⟨tb, z1⟩ := top_bound hA.small hl hv (by omega)
  have hlz := fun W => bits_LeadingZeros32 (limb l (len n - 1)) W (by omega) hx
  have HL := Lib.hid hl; have HV := Lib.hid hv
  clear hl hv
  generalize lz (limb l (len n - 1)) = s at tb z1 hlz
  have HTB := Lib.hid tb; have HLZ := Lib.hid hlz
  clear tb hlz
  have hwA : ∀ V, Ext w V → Calls Tryz.prog 236 #[.slice (some ⟨pa, oa, none⟩) (len n) c, .int .i64 (len n : Nat), .int .i64 (s : Nat)] V fun e w' => e = .returned (.int .u64 (n / 2 ^ (32 * (len n - 2) - s) : Nat)) ∧ Ext V w' := fun V hV => nat_window _ _ _ _ _ _ _ (ha.ext hV) (Nat.le_refl _) (by omega) h3 z1 HTB.out
  have hwB : ∀ V, Ext w V → Calls Tryz.prog 236 #[.slice b (len m) c', .int .i64 (len n : Nat), .int .i64 (s : Nat)] V fun e w' => e = .returned (.int .u64 (m / 2 ^ (32 * (len n - 2) - s) : Nat)) ∧ Ext V w' := fun V hV => nat_window _ _ _ _ _ _ _ (hb.ext hV) hlm (by omega) h3 z1 (Nat.lt_of_le_of_lt hle HTB.out)
  have hE0 : 0 < 2 ^ (32 * (len n - 2) - s) := Nat.two_pow_pos _
  have hXb : n / 2 ^ (32 * (len n - 2) - s) < 18446744073709551616 := by
    rw [Nat.div_lt_iff_lt_mul hE0, show (18446744073709551616 : Nat) = 2 ^ 64 from by decide, ← Nat.pow_add, show 64 + (32 * (len n - 2) - s) = 32 * len n - s from by omega]
    exact HTB.out
  have hYX : m / 2 ^ (32 * (len n - 2) - s) ≤ n / 2 ^ (32 * (len n - 2) - s) := Nat.div_le_div_right hle
  have hna := (Nat.div_add_mod' n (2 ^ (32 * (len n - 2) - s))).symm
  have hmb := (Nat.div_add_mod' m (2 ^ (32 * (len n - 2) - s))).symm
  have hna1 := Nat.mod_lt n hE0
  have hmb1 := Nat.mod_lt m hE0
  generalize n / 2 ^ (32 * (len n - 2) - s) = X at *
  generalize m / 2 ^ (32 * (len n - 2) - s) = Y at *
  have hout : ∀ (sx : Int) (x y u1 u2 v1 v2 : Nat), Leh X Y sx x y u1 u2 v1 v2 → v2 ≤ y → v1 + v2 ≤ x - y → ∃ A B, LehOut n m (decide (sx = 1)) u1 v1 u2 v2 A B := fun _ _ _ _ _ _ _ h c1 c2 => h.out hna hmb hna1 hmb1 c1 c2
  have HO := Lib.hid hout; have HA := Lib.hid hwA; have HB := Lib.hid hwB
  clear hout hwA hwB hna hmb hna1 hmb1 hE0
  go_enter Tryz.func230, Tryz.ntmps230
  go_upto_region 1 with fail
  obtain ⟨W, hW, x0, Z0, A0⟩ := boxes1 w 241 [.int .u64 0, .int .u64 0, .int .u64 0, .int .u64 0, .bool false]
  rw [← hW]
  clear hW
  have hc := (hA.ext x0).cellAt (len n - 1) (by rw [HL.out]; omega)
  go_wp2_with fail
  refine (HLZ.out W).mono ?_
  rintro e w' ⟨rfl, rfl⟩
  go_wp2_with fail
  refine (HA.out _ x0).mono ?_
  rintro e w1 ⟨rfl, hx1⟩
  go_wp2_with fail
  refine (HB.out _ (x0.trans hx1)).mono ?_
  rintro e w2 ⟨rfl, hx2⟩
  have hx12 := hx1.trans hx2
  go_wp2_with fail
  go_loopw [7, 8, 9, 10, 11, 12, 13, 14, 15] (fun a7 a8 a9 a10 a11 a12 a13 a14 a15 wr => ∃ (x y u0 u1 u2 v0 v1 v2 : Nat) (ev : Bool), x < 18446744073709551616 ∧ y < 18446744073709551616 ∧ u0 < 18446744073709551616 ∧ u1 < 18446744073709551616 ∧ u2 < 18446744073709551616 ∧ v0 < 18446744073709551616 ∧ v1 < 18446744073709551616 ∧ v2 < 18446744073709551616 ∧ Hid (Leh X Y (sg ev) x y u1 u2 v1 v2) ∧ Hid (v0 = 0 ∨ ∃ A B, LehOut n m ev u0 v0 u1 v1 A B) ∧ Quiet w2 wr ∧
      a7 = .int .u64 x ∧ a8 = .int .u64 y ∧ a9 = .int .u64 u0 ∧ a10 = .int .u64 u1 ∧ a11 = .int .u64 u2 ∧ a12 = .int .u64 v0 ∧ a13 = .int .u64 v1 ∧ a14 = .int .u64 v2 ∧ a15 = .bool ev) (fun _ a8 _ _ _ _ _ _ _ _ => (intOf a8).toNat)
  case atStart => exact ⟨X, Y, 0, 1, 0, 0, 0, 1, false, hXb, by omega, by omega, by omega, by omega, by omega, by omega, by omega, Leh.start hYX, Or.inl rfl, Quiet.refl _, rfl, rfl, rfl, rfl, rfl, rfl, rfl, rfl, rfl⟩
  case round =>
    obtain ⟨x, y, u0, u1, u2, v0, v1, v2, ev, k1, k2, k3, k4, k5, k6, k7, k8, hL, hO, hq, rfl, rfl, rfl, rfl, rfl, rfl, rfl, rfl, rfl⟩ := hrel
    have hyx := hL.out.le
    by_cases c1 : v2 ≤ y
    · have hbig := hL.out.big.1
      have hv2 := hL.out.pos
      have hsum : v1 + v2 ≤ X := by
        rw [← hbig]
        have h1 : v2 * 1 ≤ v2 * x := Nat.mul_le_mul_left _ (by omega)
        have h2 : v1 * 1 ≤ v1 * y := Nat.mul_le_mul_left _ (by omega)
        omega
      clear hbig
      by_cases c2 : v1 + v2 ≤ x - y
      · have d1 : decide ((v2 : Int) ≤ (y : Int)) = true := by simp; exact c1
        have d2 : decide ((v1 : Int) + (v2 : Int) ≤ (x : Int) - (y : Int)) = true := by simp; omega
        have hy0 : 0 < y := by omega
        have hst := hL.out.step hy0
        have hlt := Nat.mod_lt x hy0
        have hql : x / y ≤ x := Nat.div_le_self _ _
        have hb2 := hst.big.1
        have huv := hst.uv
        have ho := HO.out _ _ _ _ _ _ _ hL.out c1 c2
        rw [sg_one] at ho
        rw [sg_not] at hst
        have eq1 : (x : Int) / (y : Int) = ((x / y : Nat) : Int) := by rw [Int.natCast_ediv]
        have er1 : (x : Int) % (y : Int) = ((x % y : Nat) : Int) := by rw [Int.natCast_emod]
        generalize x / y = q at *
        generalize x % y = r at *
        have eq2 : IntKind.u64.wrap ((x : Int) / (y : Int)) = (q : Int) := by rw [eq1, IntKind.wrap_u64]; omega
        have er2 : (x : Int).tmod (y : Int) = (r : Int) := by rw [Int.tmod_eq_emod_of_nonneg (by omega), er1]
        have hv3 : v1 + q * v2 ≤ X := by
          rw [← hb2]
          have h1 : (v1 + q * v2) * 1 ≤ (v1 + q * v2) * y := Nat.mul_le_mul_left _ (by omega)
          omega
        clear hb2
        have m1 : (q : Int) * (v2 : Int) ≤ 18446744073709551615 := by rw [← Int.natCast_mul]; omega
        have m2 : 0 ≤ (q : Int) * (v2 : Int) := by rw [← Int.natCast_mul]; omega
        have m3 : (q : Int) * (u2 : Int) ≤ 18446744073709551615 := by rw [← Int.natCast_mul]; omega
        have m4 : 0 ≤ (q : Int) * (u2 : Int) := by rw [← Int.natCast_mul]; omega
        have m5 : (v1 : Int) + (q : Int) * (v2 : Int) ≤ 18446744073709551615 := by rw [← Int.natCast_mul]; omega
        have m6 : (u1 : Int) + (q : Int) * (u2 : Int) ≤ 18446744073709551615 := by rw [← Int.natCast_mul]; omega
        have m7 : u1 + q * u2 < 18446744073709551616 := by omega
        have m8 : v1 + q * v2 < 18446744073709551616 := by omega
        have HST := Lib.hid hst; have HOO := Lib.hid ho
        clear hst ho huv hv3
        have y1 : (1 : Int) ≤ (y : Int) := by omega
        have y2 : ((y : Int) == 0) = false := by rw [beq_eq_false_iff_ne]; omega
        have y3 : ((y : Nat) : Int) ≠ 0 := by omega
        go_wp2_with fail
        go_quiet (fail)
        go_wp2_with fail
        refine ⟨⟨y, r, u1, u2, u1 + q * u2, v1, v2, v1 + q * v2, !ev, k2, by omega, k4, k5, m7, k7, k8, m8, HST, Or.inr HOO.out, hq.drewN _, rfl, rfl, rfl, rfl, ?_, rfl, rfl, ?_, rfl⟩, ?_⟩
        · rw [Int.natCast_add, Int.natCast_mul]
        · rw [Int.natCast_add, Int.natCast_mul]
        · simp [intOf]; omega
      · have d1 : decide ((v2 : Int) ≤ (y : Int)) = true := by simp; exact c1
        have d2 : decide ((v1 : Int) + (v2 : Int) ≤ (x : Int) - (y : Int)) = false := by simp; omega
        obtain ⟨⟨b0, b1, b2, b3, b4⟩, f0, f1, f2, f3, f4⟩ := box5 A0 (hx12.trans hq.ext)
        have zz := (A0.ext (hx12.trans hq.ext)).lt
        go_wp2_with fail
        exact bodyPost_ret (v := .agg #[.int .u64 u0, .int .u64 u1, .int .u64 v0, .int .u64 v1, .bool ev]) (by simp [results, Tryz.results230, go_sem, b0, b1, b2, b3, b4]) rfl ⟨u0, u1, v0, v1, ev, rfl, k3, k4, k6, k7, hO.out, x0.touch (hx12.trans hq.ext) (Touch.five _ (Nat.le_refl _) (by rw [Z0.out]; omega) _ _ _ _ _)⟩
    · have d2 : decide ((v2 : Int) ≤ (y : Int)) = false := by simp; omega
      obtain ⟨⟨b0, b1, b2, b3, b4⟩, f0, f1, f2, f3, f4⟩ := box5 A0 (hx12.trans hq.ext)
      have zz := (A0.ext (hx12.trans hq.ext)).lt
      go_wp2_with fail
      exact bodyPost_ret (v := .agg #[.int .u64 u0, .int .u64 u1, .int .u64 v0, .int .u64 v1, .bool ev]) (by simp [results, Tryz.results230, go_sem, b0, b1, b2, b3, b4]) rfl ⟨u0, u1, v0, v1, ev, rfl, k3, k4, k6, k7, hO.out, x0.touch (hx12.trans hq.ext) (Touch.five _ (Nat.le_refl _) (by rw [Z0.out]; omega) _ _ _ _ _)⟩
end Go.Proofs.YtgihpfkjpfanmaaGreat

/- natural.GCD. -/
namespace Go.Proofs.YtgihpfkjpfanmaaGreat
open Go.RowKit

/-- The two numbers at the head of the loop. -/
def GcdAt (g n m : Nat) (w : World) (s0 s1 : Value) (wr : World) : Prop :=
  ∃ (A B : Nat) (a b : Option Addr) (c c' : Nat), A + B ≤ g ∧ B ≤ A ∧ Nat.gcd A B = Nat.gcd n m ∧ len A < 400000000 ∧ Raw wr a (len A) c A ∧ Raw wr b (len B) c' B ∧ Ext w wr ∧ s0 = .slice a (len A) c ∧ s1 = .slice b (len B) c'

set_option maxHeartbeats 4000000 in
set_option maxRecDepth 100000 in
theorem nat_GCD (w : World) (a b : Option Addr) (k k' c c' n m : Nat) (ha : Raw w a k c n) (hb : Raw w b k' c' m) (h1 : len n < 400000000) (h2 : len m < 400000000) :
    Calls Tryz.prog 219 #[.slice a k c, .slice b k' c'] w (NewNat (Nat.gcd n m) w) := by
  have ha' := ha.cut
  have hb' := hb.cut
  go_enter Tryz.func219, Tryz.ntmps219
  go_wp2_with fail
  refine (nat_cut _ _ _ _ _ ha).mono ?_
  rintro e w' ⟨rfl, rfl⟩
  go_wp2_with fail
  refine (nat_cut _ _ _ _ _ hb).mono ?_
  rintro e w' ⟨rfl, rfl⟩
  go_wp2_with fail
  refine (nat_Compare _ _ _ _ _ _ _ _ _ ha' hb').mono ?_
  rintro e w0 ⟨rfl, hq0⟩
  have hq := hq0.ext
  go_upto_if 18 with fail
  go_cut [0, 1] (fun s0 s1 wx => GcdAt (n + m) n m w s0 s1 wx)
  case first =>
    by_cases hlt : n < m
    · have hc : cmpN n m = -1 := by unfold cmpN; rw [if_pos hlt]
      rw [hc]; clear hc
      go_wp2_with fail
      go_meet
      exact ⟨m, n, b, a, c', c, by omega, by omega, Nat.gcd_comm _ _, h2, hb'.ext hq, ha'.ext hq, hq, rfl, rfl⟩
    · have hc : 0 ≤ cmpN n m := by unfold cmpN; rw [if_neg (by omega)]; split <;> decide
      go_wp2_with fail
      go_meet
      exact ⟨n, m, a, b, c, c', by omega, by omega, rfl, h1, ha'.ext hq, hb'.ext hq, hq, rfl, rfl⟩
  case rest =>
    have HC := Lib.hid hcut
    clear hcut
    go_wp2_with fail
    go_loopg [0, 1] (n + m) (fun g s0 s1 wr => GcdAt g n m w s0 s1 wr)
    case atStart => exact HC.out
    case round =>
      obtain ⟨A, B, a, b, c, c', hg, hBA, hgcd, hlA, rA, rB, hx, rfl, rfl⟩ := hrel
      have hlB := len_mono hBA
      have HGC := Lib.hid hgcd
      clear hgcd
      have lA := rA.le
      by_cases hB : B = 0
      · subst hB
        rw [len_zero]
        go_wp2_with fail
        refine (nat_Trim _ _ _ _ _ rA).mono ?_
        rintro e w1 ⟨a1, c1, rfl, r1, f1, x1⟩
        go_wp2_with fail
        go_ret
        have hg0 := HGC.out
        rw [Nat.gcd_zero_right] at hg0
        rw [← hg0]
        exact ⟨_, _, rfl, r1, f1.mono hx.size, hx.trans x1⟩
      · have pB := len_pos.2 (Nat.pos_of_ne_zero hB)
        by_cases h2 : len A ≤ 2
        · have hA64 := len_le_two.1 h2
          have hB64 := len_le_two.1 (Nat.le_trans hlB h2)
          go_wp2_with fail
          refine (nat_word _ _ _ _ _ rA h2).mono ?_
          rintro e w' ⟨rfl, rfl⟩
          go_wp2_with fail
          refine (nat_word _ _ _ _ _ rB (Nat.le_trans hlB h2)).mono ?_
          rintro e w' ⟨rfl, rfl⟩
          go_wp2_with fail
          obtain ⟨wo, rfl⟩ : ∃ wo : World, wo = wr := ⟨_, rfl⟩
          go_loopw [5, 6] (fun s5 s6 wr => ∃ x y : Nat, x < 18446744073709551616 ∧ y < 18446744073709551616 ∧ Hid (Nat.gcd x y = Nat.gcd n m) ∧ Quiet wo wr ∧ s5 = .int .u64 x ∧ s6 = .int .u64 y) (fun _ s6 _ => (intOf s6).toNat)
          case atStart => exact ⟨A, B, hA64, hB64, HGC, Quiet.refl _, rfl, rfl⟩
          case round =>
            obtain ⟨x, y, hx64, hy64, hgxy, hq, rfl, rfl⟩ := hrel
            by_cases hy : y = 0
            · subst hy
              go_wp2_with fail
              refine (nat_FromUint64 _ _ hx64).mono ?_
              rintro e w1 ⟨a1, c1, rfl, r1, f1, x1⟩
              go_wp2_with fail
              go_ret
              have hg0 := hgxy.out
              rw [Nat.gcd_zero_right] at hg0
              rw [← hg0]
              exact ⟨_, _, rfl, r1, f1.mono (Nat.le_trans hx.size hq.ext.size), (hx.trans hq.ext).trans x1⟩
            · have hyb : (((y : Nat) : Int) != 0) = true := by rw [bne_iff_ne]; omega
              have e3 : (x : Int).tmod (y : Int) = ((x % y : Nat) : Int) := by rw [Int.tmod_eq_emod_of_nonneg (by omega), Int.natCast_emod]
              have hyi : ((y : Int) == 0) = false := by rw [beq_eq_false_iff_ne]; omega
              have h1y : (1 : Int) ≤ (y : Int) := by omega
              have hlt := Nat.mod_lt x (Nat.pos_of_ne_zero hy)
              have hgg : Nat.gcd y (x % y) = Nat.gcd x y := by rw [Nat.gcd_comm y, ← Nat.gcd_rec, Nat.gcd_comm]
              have HG := Lib.hid hgg; clear hgg
              go_wp2_with fail
              go_quiet (fail)
              go_wp2_with fail
              go_roundw
              case rel => exact ⟨y, x % y, by omega, by omega, HG.out.trans hgxy.out, hq.drewN _, rfl, rfl⟩
              case measure => simp [intOf]; omega
        · go_wp2_with fail
          refine (nat_leading _ _ _ _ _ _ _ rA rB (by omega) hBA (by omega)).mono ?_
          rintro e w1 ⟨u0, u1, v0, v1, ev, rfl, k0, k1, k2, k3, hout, x1⟩
          have HO := Lib.hid hout; clear hout
          go_upto_region 11 with fail
          obtain ⟨W, hWe, x0, Z0, A0⟩ := boxes1 w1 241 [.int .u64 u0, .int .u64 u1, .int .u64 v0, .int .u64 v1, .bool ev]
          rw [← hWe]
          clear hWe
          have hW := x1.trans x0
          obtain ⟨⟨b0, b1, b2, b3, b4⟩, f0, f1, f2, f3, f4⟩ := box5 A0 (Ext.refl _)
          by_cases hv0 : v0 = 0
          · subst hv0
            go_wp2_with fail
            refine (nat_DivMod _ _ _ _ _ _ _ _ _ (rA.ext hW) (rB.ext hW) (Nat.pos_of_ne_zero hB) (by omega)).mono ?_
            rintro e w2 ⟨a2, c2, a3, c3, rfl, r2, f2, r3, f3, x2⟩
            have hlt := Nat.mod_lt A (Nat.pos_of_ne_zero hB)
            go_wp2_with fail
            go_roundg (B + A % B)
            case measure => omega
            case rel => exact ⟨B, A % B, b, a3, c', c3, Nat.le_refl _, by omega, by rw [← HGC.out, Nat.gcd_comm B, ← Nat.gcd_rec, Nat.gcd_comm], by omega, (rB.ext hW).ext x2, r3, (hx.trans hW).trans x2, rfl, rfl⟩
          · have hvb : (((v0 : Nat) : Int) == 0) = false := by rw [beq_eq_false_iff_ne]; omega
            obtain ⟨A1, B1, hO⟩ : ∃ A1 B1, LehOut A B ev u0 v0 u1 v1 A1 B1 := by
              rcases HO.out with h | h
              · exact absurd h hv0
              · exact h
            have hless := hO.less hv0 (Nat.pos_of_ne_zero hB)
            have hA1 : A1 ≤ A := by
              have h5 := hO.ea
              have h6 : A1 ≤ v1 * A1 := Nat.le_mul_of_pos_left _ hO.pos
              omega
            cases ev with
            | true =>
              have q1 : B * v0 ≤ A * u0 := by have := hO.fst; simp only [if_true] at this; rw [Nat.mul_comm B, Nat.mul_comm A]; omega
              have q2 : A * u1 ≤ B * v1 := by have := hO.snd; simp only [if_true] at this; rw [Nat.mul_comm B, Nat.mul_comm A]; omega
              have e1 : A * u0 - B * v0 = A1 := by have := hO.fst; simp only [if_true] at this; rw [Nat.mul_comm B, Nat.mul_comm A]; omega
              have e2 : B * v1 - A * u1 = B1 := by have := hO.snd; simp only [if_true] at this; rw [Nat.mul_comm B, Nat.mul_comm A]; omega
              have hc1 := fun V (hV : Ext wr V) => nat_combine V _ _ _ _ _ _ _ _ u0 v0 (rA.ext hV) (rB.ext hV) (by omega) (by omega) k0 k2 q1
              have hc2 := fun V (hV : Ext wr V) => nat_combine V _ _ _ _ _ _ _ _ v1 u1 (rB.ext hV) (rA.ext hV) (by omega) (by omega) k3 k1 q2
              rw [e1] at hc1
              rw [e2] at hc2
              have hlA1 := len_mono hA1
              have HC1 := Lib.hid hc1; have HC2 := Lib.hid hc2
              clear hc1 hc2 q1 q2 e1 e2
              have tok1 : True := trivial
              go_wp2_with fail
              go_region_held3 (fun w' => w'.cell? ⟨w1.heap.size, 0, none⟩ = some (.int .u64 u0) ∧ w'.cell? ⟨w1.heap.size, 1, none⟩ = some (.int .u64 u1) ∧ w'.cell? ⟨w1.heap.size, 2, none⟩ = some (.int .u64 v0) ∧ w'.cell? ⟨w1.heap.size, 3, none⟩ = some (.int .u64 v1)) (first | exact ⟨b0, b1, b2, b3⟩ | (simp [go_sem, b0, b1, b2, b3])) (first
                | (go_at_call 231; have _t := tok1; refine (HC1.out _ (hW.drew)).mono ?_; rintro e w2 ⟨a2, c2, rfl, r2, f2, x2⟩; clear tok1 _t; obtain ⟨⟨b0, b1, b2, b3, b4⟩, f0, f1, f2', f3, f4⟩ := box5 A0 ((Ext.refl _).drew.trans x2))
                | (go_at_call 231; refine (HC2.out _ (hW.drew.trans x2)).mono ?_; rintro e w3 ⟨a3, c3, rfl, r3, f3', x3⟩; obtain ⟨⟨b0, b1, b2, b3, b4⟩, f0, f1, f2', f3, f4⟩ := box5 A0 (((Ext.refl _).drew.trans x2).trans x3)))
              all_goals go_wp2_with fail
              all_goals go_roundg (A1 + B1)
              all_goals (first
                | (case measure => omega)
                | (case rel => exact ⟨A1, B1, a2, a3, c2, c3, Nat.le_refl _, hO.le, hO.gcd.trans HGC.out, by omega, r2.ext x3, r3, ((hx.trans hW).drew.trans x2).trans x3, rfl, rfl⟩))
            | false =>
              have q1 : A * u0 ≤ B * v0 := by have := hO.fst; simp only [Bool.false_eq_true, if_false] at this; rw [Nat.mul_comm B, Nat.mul_comm A]; omega
              have q2 : B * v1 ≤ A * u1 := by have := hO.snd; simp only [Bool.false_eq_true, if_false] at this; rw [Nat.mul_comm B, Nat.mul_comm A]; omega
              have e1 : B * v0 - A * u0 = A1 := by have := hO.fst; simp only [Bool.false_eq_true, if_false] at this; rw [Nat.mul_comm B, Nat.mul_comm A]; omega
              have e2 : A * u1 - B * v1 = B1 := by have := hO.snd; simp only [Bool.false_eq_true, if_false] at this; rw [Nat.mul_comm B, Nat.mul_comm A]; omega
              have hc1 := fun V (hV : Ext wr V) => nat_combine V _ _ _ _ _ _ _ _ v0 u0 (rB.ext hV) (rA.ext hV) (by omega) (by omega) k2 k0 q1
              have hc2 := fun V (hV : Ext wr V) => nat_combine V _ _ _ _ _ _ _ _ u1 v1 (rA.ext hV) (rB.ext hV) (by omega) (by omega) k1 k3 q2
              rw [e1] at hc1
              rw [e2] at hc2
              have hlA1 := len_mono hA1
              have HC1 := Lib.hid hc1; have HC2 := Lib.hid hc2
              clear hc1 hc2 q1 q2 e1 e2
              have tok1 : True := trivial
              go_wp2_with fail
              go_region_held3 (fun w' => w'.cell? ⟨w1.heap.size, 0, none⟩ = some (.int .u64 u0) ∧ w'.cell? ⟨w1.heap.size, 1, none⟩ = some (.int .u64 u1) ∧ w'.cell? ⟨w1.heap.size, 2, none⟩ = some (.int .u64 v0) ∧ w'.cell? ⟨w1.heap.size, 3, none⟩ = some (.int .u64 v1)) (first | exact ⟨b0, b1, b2, b3⟩ | (simp [go_sem, b0, b1, b2, b3])) (first
                | (go_at_call 231; have _t := tok1; refine (HC1.out _ (hW.drew)).mono ?_; rintro e w2 ⟨a2, c2, rfl, r2, f2, x2⟩; clear tok1 _t; obtain ⟨⟨b0, b1, b2, b3, b4⟩, f0, f1, f2', f3, f4⟩ := box5 A0 ((Ext.refl _).drew.trans x2))
                | (go_at_call 231; refine (HC2.out _ (hW.drew.trans x2)).mono ?_; rintro e w3 ⟨a3, c3, rfl, r3, f3', x3⟩; obtain ⟨⟨b0, b1, b2, b3, b4⟩, f0, f1, f2', f3, f4⟩ := box5 A0 (((Ext.refl _).drew.trans x2).trans x3)))
              all_goals go_wp2_with fail
              all_goals go_roundg (A1 + B1)
              all_goals (first
                | (case measure => omega)
                | (case rel => exact ⟨A1, B1, a2, a3, c2, c3, Nat.le_refl _, hO.le, hO.gcd.trans HGC.out, by omega, r2.ext x3, r3, ((hx.trans hW).drew.trans x2).trans x3, rfl, rfl⟩))
end Go.Proofs.YtgihpfkjpfanmaaGreat

/- Contracts of rational.lowest, Norm, FromInt, Sign. -/
namespace Go.Proofs.YtgihpfkjpfanmaaGreat
open Go.RowKit

/-- integer.Norm, the magnitude written out. -/
theorem int_Norm' (w : World) (s : Bool) (a : Option Addr) (k c n : Nat) (h : Raw w a k c n) :
    Calls Tryz.prog 218 #[.agg #[.bool s, .slice a k c]] w fun e w' => ∃ a1 c1, e = .returned (.agg #[.bool (decide (sgn s n < 0)), .slice a1 (len n) c1]) ∧ Raw w' a1 (len n) c1 n ∧ Fr w.heap.size a1 ∧ Ext w w' :=
  (int_Norm w s a k c n h).mono fun _ _ ⟨a1, c1, he, hr, hf, hx⟩ => ⟨a1, c1, by rw [he, sgn_natAbs], by rw [sgn_natAbs] at hr; exact hr, hf, hx⟩

/-- A rational number in the cells of the result. -/
theorem NewRat.of2 {w w3 : World} {a a' : Option Addr} {c c' : Nat} {q : Rat} {n m : Nat} {s : Bool} (hn : q.num.natAbs = n) (hm : q.den = m) (hs : decide (q.num < 0) = s)
    (h : Raw w3 a (len n) c n) (hf : Fr w.heap.size a) (h' : Raw w3 a' (len m) c' m) (hf' : Fr w.heap.size a') (hE : Ext w w3) : NewRat q w (.returned (.agg #[.bool s, .slice a (len n) c, .slice a' (len m) c'])) w3 := by
  subst hn; subst hm; subst hs
  exact ⟨a, c, a', c', rfl, h, hf, h', hf', hE⟩
theorem Ext.set3 {a w : World} (h : Ext a w) {b : Nat} (hb : a.heap.size ≤ b) (v0 v1 v2 : Value) : Ext a (((w.setCell ⟨b, 0, none⟩ v0).setCell ⟨b, 1, none⟩ v1).setCell ⟨b, 2, none⟩ v2) := ((h.setCell hb _).setCell hb _).setCell hb _
theorem Ext.set2 {a w : World} (h : Ext a w) {b : Nat} (hb : a.heap.size ≤ b) (v0 v1 : Value) : Ext a ((w.setCell ⟨b, 0, none⟩ v0).setCell ⟨b, 1, none⟩ v1) := (h.setCell hb _).setCell hb _

theorem zero_num_neg : decide ((0 : Rat).num < 0) = false := rfl

set_option maxHeartbeats 2000000 in
set_option maxRecDepth 100000 in
/-- rational.lowest. -/
theorem rat_lowest (w : World) (s : Bool) (a b : Option Addr) (k c j d n m : Nat) (h : Raw w a k c n) (g : Raw w b j d m) (hm : 0 < m) (b1 : len n < 400000000) (b2 : len m < 400000000) :
    Calls Tryz.prog 156 #[.agg #[.bool s, .slice a k c], .slice b j d] w (NewRat (mkRat (sgn s n) m) w) := by
  go_enter Tryz.func156, Tryz.ntmps156
  go_wp2_with fail
  obtain ⟨W, hW, x0, Z0, A0, A1⟩ := boxes2 w 53 [.bool s, .slice a k c] 55 [.bool false, .slice none 0 0, .slice none 0 0]
  rw [← hW]
  clear hW
  obtain ⟨k0_0, k0_1, f0_0, f0_1⟩ := box2 A0 (Ext.refl _)
  have z0 := (A0.ext (Ext.refl _)).lt
  obtain ⟨k1_0, k1_1, k1_2, f1_0, f1_1, f1_2⟩ := box3 A1 (Ext.refl _)
  have z1 := (A1.ext (Ext.refl _)).lt
  refine (int_Norm' _ _ _ _ _ _ (h.ext x0)).mono ?_
  rintro e w1 ⟨a1, c1, rfl, hr1, hf1, hx1⟩
  obtain ⟨k0_0, k0_1, f0_0, f0_1⟩ := box2 A0 hx1
  have z0 := (A0.ext hx1).lt
  obtain ⟨k1_0, k1_1, k1_2, f1_0, f1_1, f1_2⟩ := box3 A1 hx1
  have z1 := (A1.ext hx1).lt
  go_wp2_with fail
  refine (nat_Trim _ _ _ _ _ ((g.ext x0).ext hx1)).mono ?_
  rintro e w2 ⟨a2, c2, rfl, hr2, hf2, hx2⟩
  obtain ⟨k0_0, k0_1, f0_0, f0_1⟩ := box2 A0 (hx1.trans hx2)
  have z0 := (A0.ext (hx1.trans hx2)).lt
  obtain ⟨k1_0, k1_1, k1_2, f1_0, f1_1, f1_2⟩ := box3 A1 (hx1.trans hx2)
  have z1 := (A1.ext (hx1.trans hx2)).lt
  have y2 : Ext W w2 := hx1.trans hx2
  have F2 : Fr W.heap.size a2 := hf2.mono hx1.size
  by_cases h0 : n = 0
  · subst h0
    have eq0 : mkRat (sgn s 0) m = 0 := by rw [sgn_zero, Rat.zero_mkRat]
    have EQ0 := Lib.hid eq0; clear eq0
    have es : decide (sgn s 0 < 0) = false := by rw [sgn_zero]; rfl
    go_wp2
    refine bodyPost_ret (v := .agg #[.bool false, .slice none 0 0, .slice (some ⟨w2.heap.size, 0, none⟩) 1 1]) (by simp [results, Tryz.results156, go_sem, *]) rfl ?_
    rw [EQ0.out]
    refine ⟨none, 0, some ⟨w2.heap.size, 0, none⟩, 1, by rw [show (0 : Rat).den = 1 from rfl, len1]; rfl, Raw.nil _, Fr.none _, ?_, Fr.some (x0.trans y2).size, ?_⟩
    · rw [show (0 : Rat).den = 1 from rfl, len1]
      have := raw_one (((((w2.setCell ⟨w.heap.size, 0, none⟩ (.bool false)).setCell ⟨w.heap.size, 1, none⟩ (.slice a1 (len 0) c1)).setCell ⟨w.heap.size + 1, 0, none⟩ (.bool false)).setCell ⟨w.heap.size + 1, 1, none⟩ (.slice none 0 0)).setCell ⟨w.heap.size + 1, 2, none⟩ (.slice (some ⟨w2.heap.size, 0, none⟩) 1 1))
      simpa using this
    · refine Ext.alloc (Ext.setCell (Ext.setCell (Ext.setCell (Ext.setCell (Ext.setCell (x0.trans y2) ?_ _) ?_ _) ?_ _) ?_ _) ?_ _) _ <;> simp
  · have hn0 : (((len n : Nat) : Int) == 0) = false := by rw [beq_eq_false_iff_ne]; have := len_pos.2 (Nat.pos_of_ne_zero h0); omega
    go_wp2_with fail
    obtain ⟨w3, hw3⟩ : ∃ w3, w3 = ((w2.setCell ⟨w.heap.size, 0, none⟩ (.bool (decide (sgn s n < 0)))).setCell ⟨w.heap.size, 1, none⟩ (.slice a1 (len n) c1)) := ⟨_, rfl⟩
    rw [← hw3]
    have T3 : Touch w.heap.size W.heap.size w2 w3 := by rw [hw3]; exact Touch.two _ (Nat.le_refl _) (by rw [Z0.out]; omega) _ _
    have B0 : Arr w3 w.heap.size 53 [.bool (decide (sgn s n < 0)), .slice a1 (len n) c1] := by rw [hw3]; exact ((A0.ext y2).set 0 _).set 1 _
    have B1 : Arr w3 (w.heap.size + 1) 55 [.bool false, .slice none 0 0, .slice none 0 0] := by rw [hw3]; exact ((A1.ext y2).other _ _ (by simp)).other _ _ (by simp)
    have E3 : Ext w w3 := x0.touch y2 T3
    have S3 : W.heap.size ≤ w3.heap.size := by rw [T3.size]; exact y2.size
    clear hw3 A0 A1 k0_0 k0_1 k1_0 k1_1 k1_2 f0_0 f0_1 f1_0 f1_1 f1_2 z0 z1
    have r1 := (hr1.ext hx2).touch T3 hf1.out
    have r2 := hr2.touch T3 F2.out
    obtain ⟨G, hG⟩ : ∃ G, G = Nat.gcd n m := ⟨_, rfl⟩
    have hG0 : 0 < G := by rw [hG]; exact Nat.gcd_pos_of_pos_right _ hm
    have q1 : (mkRat (sgn s n) m).num.natAbs = n / G := by rw [mkRat_num_natAbs _ _ hm, sgn_natAbs, hG, Nat.gcd_comm]
    have q2 : (mkRat (sgn s n) m).den = m / G := by rw [mkRat_den' _ _ hm, sgn_natAbs, hG, Nat.gcd_comm]
    have q3 := mkRat_num_neg (sgn s n) m hm
    generalize hQ : mkRat (sgn s n) m = Q at *
    have Q1 := Lib.hid q1; have Q2 := Lib.hid q2; have Q3 := Lib.hid q3; have HQ := Lib.hid hQ
    clear q1 q2 q3 hQ
    refine (nat_GCD _ _ _ _ _ _ _ _ _ r1 r2 b1 b2).mono ?_
    rw [← hG]
    have HG := Lib.hid hG; clear hG
    rintro e w4 ⟨a4, c4, rfl, hr4, hf4, hx4⟩
    have F4 : Fr W.heap.size a4 := hf4.mono S3
    have lG := len_pos.2 hG0
    obtain ⟨i0, i1, i2, i3⟩ := box2 B0 hx4
    obtain ⟨l0, l1, l2, l3, l4, l5⟩ := box3 B1 hx4
    have i4 := (B0.ext hx4).lt
    have l6 := (B1.ext hx4).lt
    by_cases hG1 : G = 1
    · subst hG1
      have e1 : Q.num.natAbs = n := by rw [Q1.out, Nat.div_one]
      have e2 : Q.den = m := by rw [Q2.out, Nat.div_one]
      have R1 := Lib.hid e1; have R2 := Lib.hid e2; clear e1 e2
      obtain ⟨l, hl, hv, hL⟩ := hr4
      rw [len1] at hl
      obtain ⟨pb, ob, rfl⟩ := hL.at (by omega)
      have hc := hL.cellAt 0 (by omega)
      have e0 : limb l 0 = 1 := by
        match l, hl with
        | [x], _ => simpa [limb, val] using hv
      rw [e0, Nat.add_zero] at hc
      rw [len1]
      clear hl hv e0
      go_wp2
      exact bodyPost_ret (by simp [results, Tryz.results156, go_sem, *]) rfl (NewRat.of2 R1.out R2.out Q3.out ((r1.ext hx4).touch (Touch.three (lo := w.heap.size) (hi := W.heap.size) _ (by omega) (by rw [Z0.out]; omega) _ _ _) hf1.out) (hf1.mono x0.size) ((r2.ext hx4).touch (Touch.three (lo := w.heap.size) (hi := W.heap.size) _ (by omega) (by rw [Z0.out]; omega) _ _ _) F2.out) (F2.mono x0.size) (Ext.set3 (E3.trans hx4) (by simp) _ _ _))
    · have go : ∀ (hguard : True), True := fun _ => trivial
      by_cases hl1 : len G = 1
      · have hl1' : (((len G : Nat) : Int) != 1) = false := by rw [hl1]; rfl
        obtain ⟨l, hl, hv, hL⟩ := id hr4
        obtain ⟨pb, ob, rfl⟩ := hL.at (by omega)
        have hc := hL.cellAt 0 (by omega)
        have e0 : limb l 0 = G := by
          rw [hl1] at hl
          match l, hl with
          | [x], _ => simpa [limb, val] using hv
        rw [e0, Nat.add_zero] at hc
        have hg1 : (((G : Nat) : Int) != 1) = true := by rw [bne_iff_ne]; omega
        have h0l : (0 : Int) < (len G : Int) := by omega
        have HL1 := Lib.hid hl1; clear hl hv e0 hl1
        go_wp2_with fail
        refine (nat_DivMod _ _ _ _ _ _ _ _ _ (r1.ext hx4) hr4 hG0 (by omega)).mono ?_
        rintro e w5 ⟨a5, c5, a6, c6, rfl, hr5, hf5, hr6, hf6, hx5⟩
        have F5 : Fr W.heap.size a5 := hf5.mono (Nat.le_trans S3 hx4.size)
        have C0 := (B0.ext hx4).ext hx5
        have C1 := (B1.ext hx4).ext hx5
        obtain ⟨i0, i1, i2, i3⟩ := box2 C0 (Ext.refl _)
        have i4 := C0.lt
        go_wp2_with fail
        obtain ⟨w6, hw6⟩ : ∃ w6, w6 = w5.setCell ⟨w.heap.size, 1, none⟩ (.slice a5 (len (n / G)) c5) := ⟨_, rfl⟩
        rw [← hw6]
        have T6 : Touch w.heap.size W.heap.size w5 w6 := by rw [hw6]; exact Touch.one _ (Nat.le_refl _) (by rw [Z0.out]; omega) _ _
        have D0 : Arr w6 w.heap.size 53 [.bool (decide (sgn s n < 0)), .slice a5 (len (n / G)) c5] := by rw [hw6]; exact C0.set 1 _
        have D1 : Arr w6 (w.heap.size + 1) 55 [.bool false, .slice none 0 0, .slice none 0 0] := by rw [hw6]; exact C1.other _ _ (by simp)
        have E6 : Ext w w6 := by rw [hw6]; exact ((E3.trans hx4).trans hx5).setCell (Nat.le_refl _) _
        have S6 : W.heap.size ≤ w6.heap.size := by rw [T6.size]; exact Nat.le_trans S3 (hx4.trans hx5).size
        clear hw6
        refine (nat_DivMod _ _ _ _ _ _ _ _ _ (((r2.ext hx4).ext hx5).touch T6 F2.out) ((hr4.ext hx5).touch T6 F4.out) hG0 (by omega)).mono ?_
        rintro e w7 ⟨a7, c7, a8, c8, rfl, hr7, hf7, hr8, hf8, hx7⟩
        have F7 : Fr W.heap.size a7 := hf7.mono S6
        obtain ⟨i0, i1, i2, i3⟩ := box2 D0 hx7
        obtain ⟨l0, l1, l2, l3, l4, l5⟩ := box3 D1 hx7
        have i4 := (D0.ext hx7).lt
        have l6 := (D1.ext hx7).lt
        go_wp2
        exact bodyPost_ret (by simp [results, Tryz.results156, go_sem, *]) rfl (NewRat.of2 Q1.out Q2.out Q3.out (((hr5.touch T6 F5.out).ext hx7).touch (Touch.three (lo := w.heap.size) (hi := W.heap.size) _ (by omega) (by rw [Z0.out]; omega) _ _ _) F5.out) (F5.mono x0.size) (hr7.touch (Touch.three (lo := w.heap.size) (hi := W.heap.size) _ (by omega) (by rw [Z0.out]; omega) _ _ _) F7.out) (F7.mono x0.size) (Ext.set3 (E6.trans hx7) (by simp) _ _ _))
      · have hl1' : (((len G : Nat) : Int) != 1) = true := by rw [bne_iff_ne]; omega
        go_wp2_with fail
        refine (nat_DivMod _ _ _ _ _ _ _ _ _ (r1.ext hx4) hr4 hG0 (by omega)).mono ?_
        rintro e w5 ⟨a5, c5, a6, c6, rfl, hr5, hf5, hr6, hf6, hx5⟩
        have F5 : Fr W.heap.size a5 := hf5.mono (Nat.le_trans S3 hx4.size)
        have C0 := (B0.ext hx4).ext hx5
        have C1 := (B1.ext hx4).ext hx5
        obtain ⟨i0, i1, i2, i3⟩ := box2 C0 (Ext.refl _)
        have i4 := C0.lt
        go_wp2_with fail
        obtain ⟨w6, hw6⟩ : ∃ w6, w6 = w5.setCell ⟨w.heap.size, 1, none⟩ (.slice a5 (len (n / G)) c5) := ⟨_, rfl⟩
        rw [← hw6]
        have T6 : Touch w.heap.size W.heap.size w5 w6 := by rw [hw6]; exact Touch.one _ (Nat.le_refl _) (by rw [Z0.out]; omega) _ _
        have D0 : Arr w6 w.heap.size 53 [.bool (decide (sgn s n < 0)), .slice a5 (len (n / G)) c5] := by rw [hw6]; exact C0.set 1 _
        have D1 : Arr w6 (w.heap.size + 1) 55 [.bool false, .slice none 0 0, .slice none 0 0] := by rw [hw6]; exact C1.other _ _ (by simp)
        have E6 : Ext w w6 := by rw [hw6]; exact ((E3.trans hx4).trans hx5).setCell (Nat.le_refl _) _
        have S6 : W.heap.size ≤ w6.heap.size := by rw [T6.size]; exact Nat.le_trans S3 (hx4.trans hx5).size
        clear hw6
        refine (nat_DivMod _ _ _ _ _ _ _ _ _ (((r2.ext hx4).ext hx5).touch T6 F2.out) ((hr4.ext hx5).touch T6 F4.out) hG0 (by omega)).mono ?_
        rintro e w7 ⟨a7, c7, a8, c8, rfl, hr7, hf7, hr8, hf8, hx7⟩
        have F7 : Fr W.heap.size a7 := hf7.mono S6
        obtain ⟨i0, i1, i2, i3⟩ := box2 D0 hx7
        obtain ⟨l0, l1, l2, l3, l4, l5⟩ := box3 D1 hx7
        have i4 := (D0.ext hx7).lt
        have l6 := (D1.ext hx7).lt
        go_wp2
        exact bodyPost_ret (by simp [results, Tryz.results156, go_sem, *]) rfl (NewRat.of2 Q1.out Q2.out Q3.out (((hr5.touch T6 F5.out).ext hx7).touch (Touch.three (lo := w.heap.size) (hi := W.heap.size) _ (by omega) (by rw [Z0.out]; omega) _ _ _) F5.out) (F5.mono x0.size) (hr7.touch (Touch.three (lo := w.heap.size) (hi := W.heap.size) _ (by omega) (by rw [Z0.out]; omega) _ _ _) F7.out) (F7.mono x0.size) (Ext.set3 (E6.trans hx7) (by simp) _ _ _))
end Go.Proofs.YtgihpfkjpfanmaaGreat

/- Contracts of rational.Norm, FromInt, Sign, Neg, Mul, Div. -/
namespace Go.Proofs.YtgihpfkjpfanmaaGreat
open Go.RowKit

theorem NewRat.base {q : Rat} {W w1 w2 : World} {e : Ending} (h : NewRat q w1 e w2) (hx : Ext W w1) : NewRat q W e w2 := by
  obtain ⟨a, c, a', c', he, hr, hf, hr', hf', hx'⟩ := h
  exact ⟨a, c, a', c', he, hr, hf.mono hx.size, hr', hf'.mono hx.size, hx.trans hx'⟩

set_option maxHeartbeats 1000000 in
/-- rational.Norm. -/
theorem rat_Norm (w : World) (s : Bool) (a b : Option Addr) (k c j d n m : Nat) (h : Raw w a k c n) (g : Raw w b j d m) (b1 : len n < 100000000) (b2 : len m < 100000000) :
    Calls Tryz.prog 146 #[.agg #[.bool s, .slice a k c, .slice b j d]] w (NewRat (mkRat (sgn s n) m) w) := by
  by_cases hsm : n < 2147483648 ∧ m < 2147483648
  · obtain ⟨hn, hm⟩ := hsm
    have HN := Lib.hid hn; have HM := Lib.hid hm; clear hn hm
    go_enter Tryz.func146, Tryz.ntmps146
    go_wp2_with fail
    obtain ⟨W, hW, x0, Z0, A0, A1⟩ := boxes2 w 55 [.bool s, .slice a k c, .slice b j d] 55 [.bool false, .slice none 0 0, .slice none 0 0]
    rw [← hW]
    clear hW
    obtain ⟨k0_0, k0_1, k0_2, f0_0, f0_1, f0_2⟩ := box3 A0 (Ext.refl _)
    have z0 := (A0.ext (Ext.refl _)).lt
    obtain ⟨k1_0, k1_1, k1_2, f1_0, f1_1, f1_2⟩ := box3 A1 (Ext.refl _)
    have z1 := (A1.ext (Ext.refl _)).lt
    refine (rat_small _ _ _ _ _ _ _ _ _ _ (h.ext x0) (g.ext x0) HN.out HM.out).mono ?_
    rintro e w1 ⟨x, y, rfl, hx1, hx2, hy1, hy2, hxy, hx⟩
    have HXY := Lib.hid hxy; clear hxy
    obtain ⟨k0_0, k0_1, k0_2, f0_0, f0_1, f0_2⟩ := box3 A0 hx
    have z0 := (A0.ext hx).lt
    obtain ⟨k1_0, k1_1, k1_2, f1_0, f1_1, f1_2⟩ := box3 A1 hx
    have z1 := (A1.ext hx).lt
    go_wp2_with fail
    refine (rat_quotient _ _ _ (by omega) (by omega) hy1 (by omega)).mono ?_
    intro e wz hN
    rw [HXY.out] at hN
    obtain ⟨az, cz, az', cz', rfl, hrz, hfz, hrz', hfz', hxz⟩ := id hN
    obtain ⟨k0_0, k0_1, k0_2, f0_0, f0_1, f0_2⟩ := box3 A0 (hx.trans hxz)
    have z0 := (A0.ext (hx.trans hxz)).lt
    obtain ⟨k1_0, k1_1, k1_2, f1_0, f1_1, f1_2⟩ := box3 A1 (hx.trans hxz)
    have z1 := (A1.ext (hx.trans hxz)).lt
    go_wp2
    exact bodyPost_ret (by simp [results, Tryz.results146, go_sem, *]) rfl (NewRat.touch (hN.base hx) x0 (Touch.three _ (by omega) (by rw [Z0.out]; omega) _ _ _))
  · have HS := Lib.hid hsm; clear hsm
    go_enter Tryz.func146, Tryz.ntmps146
    go_wp2_with fail
    obtain ⟨W, hW, x0, Z0, A0, A1⟩ := boxes2 w 55 [.bool s, .slice a k c, .slice b j d] 55 [.bool false, .slice none 0 0, .slice none 0 0]
    rw [← hW]
    clear hW
    obtain ⟨k0_0, k0_1, k0_2, f0_0, f0_1, f0_2⟩ := box3 A0 (Ext.refl _)
    have z0 := (A0.ext (Ext.refl _)).lt
    obtain ⟨k1_0, k1_1, k1_2, f1_0, f1_1, f1_2⟩ := box3 A1 (Ext.refl _)
    have z1 := (A1.ext (Ext.refl _)).lt
    refine (rat_small_no _ _ _ _ _ _ _ _ _ _ (h.ext x0) (g.ext x0) HS.out).mono ?_
    rintro e w1 ⟨rfl, hx⟩
    obtain ⟨k0_0, k0_1, k0_2, f0_0, f0_1, f0_2⟩ := box3 A0 hx
    have z0 := (A0.ext hx).lt
    obtain ⟨k1_0, k1_1, k1_2, f1_0, f1_1, f1_2⟩ := box3 A1 hx
    have z1 := (A1.ext hx).lt
    go_wp2_with fail
    refine (rat_parts _ _ _ _ _ _ _ _ _ _ ((h.ext x0).ext hx) ((g.ext x0).ext hx)).mono ?_
    rintro e w2 ⟨s1, a1, k1, c1, n1, e1, j1, d1, m1, rfl, h1, g1, hm1, hv, l1, l2, hx2⟩
    have HV := Lib.hid hv; clear hv
    obtain ⟨k0_0, k0_1, k0_2, f0_0, f0_1, f0_2⟩ := box3 A0 (hx.trans hx2)
    have z0 := (A0.ext (hx.trans hx2)).lt
    obtain ⟨k1_0, k1_1, k1_2, f1_0, f1_1, f1_2⟩ := box3 A1 (hx.trans hx2)
    have z1 := (A1.ext (hx.trans hx2)).lt
    go_wp2_with fail
    refine (rat_lowest _ _ _ _ _ _ _ _ _ _ h1 g1 hm1 (by omega) (by omega)).mono ?_
    intro e wz hN
    rw [HV.out] at hN
    obtain ⟨az, cz, az', cz', rfl, hrz, hfz, hrz', hfz', hxz⟩ := id hN
    obtain ⟨k0_0, k0_1, k0_2, f0_0, f0_1, f0_2⟩ := box3 A0 ((hx.trans hx2).trans hxz)
    have z0 := (A0.ext ((hx.trans hx2).trans hxz)).lt
    obtain ⟨k1_0, k1_1, k1_2, f1_0, f1_1, f1_2⟩ := box3 A1 ((hx.trans hx2).trans hxz)
    have z1 := (A1.ext ((hx.trans hx2).trans hxz)).lt
    go_wp2
    exact bodyPost_ret (by simp [results, Tryz.results146, go_sem, *]) rfl (NewRat.touch (hN.base (hx.trans hx2)) x0 (Touch.three _ (by omega) (by rw [Z0.out]; omega) _ _ _))

set_option maxHeartbeats 1000000 in
/-- rational.FromInt. -/
theorem rat_FromInt (w : World) (v : Int) (h1 : -9223372036854775808 ≤ v) (h2 : v ≤ 9223372036854775807) :
    Calls Tryz.prog 80 #[.int .i64 v] w (NewRat (v : Rat) w) := by
  go_enter Tryz.func80, Tryz.ntmps80
  go_wp2_with fail
  obtain ⟨W, hW, x0, Z0, A0⟩ := boxes1 w 55 [.bool false, .slice none 0 0, .slice none 0 0]
  rw [← hW]
  clear hW
  obtain ⟨k0_0, k0_1, k0_2, f0_0, f0_1, f0_2⟩ := box3 A0 (Ext.refl _)
  have z0 := (A0.ext (Ext.refl _)).lt
  refine (int_FromInt _ _ h1 h2).mono ?_
  rintro e w1 ⟨a1, c1, rfl, hr1, hf1, hx1⟩
  obtain ⟨k0_0, k0_1, k0_2, f0_0, f0_1, f0_2⟩ := box3 A0 hx1
  have z0 := (A0.ext hx1).lt
  go_wp2
  refine bodyPost_ret (v := .agg #[.bool (decide (v < 0)), .slice a1 (len v.natAbs) c1, .slice (some ⟨w1.heap.size, 0, none⟩) 1 1]) (by simp [results, Tryz.results80, go_sem, *]) rfl ?_
  have R := raw_one (((w1.setCell ⟨w.heap.size, 0, none⟩ (.bool (decide (v < 0)))).setCell ⟨w.heap.size, 1, none⟩ (.slice a1 (len v.natAbs) c1)).setCell ⟨w.heap.size, 2, none⟩ (.slice (some ⟨w1.heap.size, 0, none⟩) 1 1))
  have E := Ext.set3 (x0.trans hx1) (Nat.le_refl w.heap.size) (.bool (decide (v < 0))) (.slice a1 (len v.natAbs) c1) (.slice (some ⟨w1.heap.size, 0, none⟩) 1 1)
  refine ⟨a1, c1, some ⟨w1.heap.size, 0, none⟩, 1, ?_, ?_, hf1.mono x0.size, ?_, Fr.some (x0.trans hx1).size, E.alloc _⟩
  · rw [Rat.num_intCast, Rat.den_intCast, len1]
  · rw [Rat.num_intCast]
    exact (hr1.touch (Touch.three (lo := w.heap.size) (hi := W.heap.size) _ (Nat.le_refl _) (by rw [Z0.out]; omega) _ _ _) hf1.out).ext ((Ext.refl _).alloc _)
  · rw [Rat.den_intCast, len1]; simpa using R

theorem mkRat_num_sign (x : Int) (y : Nat) (h : 0 < y) : (mkRat x y).num.sign = x.sign := by
  have hg : (0 : Int) < (Nat.gcd y x.natAbs : Nat) := by have := Nat.gcd_pos_of_pos_left x.natAbs h; omega
  have hd : ((Nat.gcd y x.natAbs : Nat) : Int) ∣ x := Int.ofNat_dvd_left.2 (Nat.gcd_dvd_right _ _)
  rw [Rat.num_mkRat, if_neg (by omega)]
  obtain ⟨z, hz⟩ := hd
  generalize ((Nat.gcd y x.natAbs : Nat) : Int) = G at *
  subst hz
  rw [Int.mul_ediv_cancel_left _ (by omega), Int.sign_mul, Int.sign_eq_one_of_pos hg, Int.one_mul]

set_option maxHeartbeats 1000000 in
/-- rational.Sign. -/
theorem rat_Sign (w : World) (s : Bool) (a b : Option Addr) (k c j d n m : Nat) (h : Raw w a k c n) (g : Raw w b j d m) :
    Calls Tryz.prog 94 #[.agg #[.bool s, .slice a k c, .slice b j d]] w fun e w' => e = .returned (.int .i64 (mkRat (sgn s n) m).num.sign) ∧ Ext w w' := by
  go_enter Tryz.func94, Tryz.ntmps94
  go_wp2_with fail
  obtain ⟨W, hW, x0, Z0, A0⟩ := boxes1 w 55 [.bool s, .slice a k c, .slice b j d]
  rw [← hW]
  clear hW
  obtain ⟨k0_0, k0_1, k0_2, f0_0, f0_1, f0_2⟩ := box3 A0 (Ext.refl _)
  have z0 := (A0.ext (Ext.refl _)).lt
  refine (rat_parts _ _ _ _ _ _ _ _ _ _ (h.ext x0) (g.ext x0)).mono ?_
  rintro e w1 ⟨s1, a1, k1, c1, n1, e1, j1, d1, m1, rfl, h1, g1, hm1, hv, l1, l2, hx1⟩
  have HV := Lib.hid hv; clear hv
  go_wp2_with fail
  refine (int_Sign _ _ _ _ _ _ (h1.ext ((Ext.refl _).alloc _))).mono ?_
  rintro e w2 ⟨rfl, hx2⟩
  go_wp2
  go_ret
  exact ⟨ret_int (by rw [← HV.out, mkRat_num_sign _ _ hm1]), ((x0.trans hx1).alloc _).trans hx2⟩

end Go.Proofs.YtgihpfkjpfanmaaGreat

/- Contracts of rational.Neg, Mul, Div. -/
namespace Go.Proofs.YtgihpfkjpfanmaaGreat
open Go.RowKit

theorem Raw.setNew {w1 w : World} {a : Option Addr} {k c n : Nat} (h : Raw w1 a k c n) (h2 : Raw w a k c n) (p : Addr) (v : Value) (hp : w1.heap.size ≤ p.block) : Raw (w.setCell p v) a k c n := by
  obtain ⟨l, e1, e2, hl⟩ := h2
  obtain ⟨l', e1', _, hl'⟩ := h
  refine ⟨l, e1, e2, hl.le, hl.cap, hl.short, hl.nul, hl.small, fun i hi => ?_⟩
  obtain ⟨b, o, ha, hc⟩ := hl.cell i hi
  obtain ⟨b', o', ha', hc'⟩ := hl'.cell i (by omega)
  refine ⟨b, o, ha, ?_⟩
  rw [ha] at ha'; cases ha'
  have := block_lt hc'
  rw [World.cell?_setCell_other _ _ _ _ (by intro e; rw [e] at hp; simp only at this hp; omega)]
  exact hc

theorem sgn_num (z : Int) : sgn (decide (z < 0)) z.natAbs = z := by
  unfold sgn; by_cases h : z < 0 <;> simp [h] <;> omega

theorem small_mul {x1 x2 : Int} (h1 : -2147483648 < x1) (h2 : x1 < 2147483648) (h3 : -2147483648 < x2) (h4 : x2 < 2147483648) : -4611686018427387904 ≤ x1 * x2 ∧ x1 * x2 ≤ 4611686018427387904 := by
  have e : (x1 * x2).natAbs ≤ 2147483648 * 2147483648 := by rw [Int.natAbs_mul]; exact Nat.mul_le_mul (by omega) (by omega)
  omega
theorem small_mul_nat {y1 y2 : Nat} (h1 : 0 < y1) (h2 : y1 < 2147483648) (h3 : 0 < y2) (h4 : y2 < 2147483648) : 0 < y1 * y2 ∧ y1 * y2 ≤ 4611686018427387904 := by
  have e : y1 * y2 ≤ 2147483648 * 2147483648 := Nat.mul_le_mul (by omega) (by omega)
  exact ⟨Nat.mul_pos h1 h3, by omega⟩
theorem len_mul (n m : Nat) : len (n * m) ≤ len n + len m := by
  rw [len_le, Nat.pow_add]
  exact Nat.mul_lt_mul'' (lt_pow_len n) (lt_pow_len m)
theorem len_add (n m : Nat) : len (n + m) ≤ max (len n) (len m) + 1 := by
  rw [len_le, Nat.pow_succ]
  have h1 : n < 4294967296 ^ (max (len n) (len m)) := len_le.1 (Nat.le_max_left _ _)
  have h2 : m < 4294967296 ^ (max (len n) (len m)) := len_le.1 (Nat.le_max_right _ _)
  omega

set_option maxHeartbeats 1000000 in
/-- rational.Neg. -/
theorem rat_Neg (w : World) (s : Bool) (a b : Option Addr) (k c j d n m : Nat) (h : Raw w a k c n) (g : Raw w b j d m) (b1 : len n < 100000000) (b2 : len m < 100000000) :
    Calls Tryz.prog 81 #[.agg #[.bool s, .slice a k c, .slice b j d]] w (NewRat (-(mkRat (sgn s n) m)) w) := by
  generalize hq : mkRat (sgn s n) m = q
  go_enter Tryz.func81, Tryz.ntmps81
  go_wp2_with fail
  obtain ⟨W, hW, x0, Z0, A0, A1⟩ := boxes2 w 55 [.bool s, .slice a k c, .slice b j d] 55 [.bool false, .slice none 0 0, .slice none 0 0]
  rw [← hW]
  clear hW
  obtain ⟨k0_0, k0_1, k0_2, f0_0, f0_1, f0_2⟩ := box3 A0 (Ext.refl _)
  have z0 := (A0.ext (Ext.refl _)).lt
  obtain ⟨k1_0, k1_1, k1_2, f1_0, f1_1, f1_2⟩ := box3 A1 (Ext.refl _)
  have z1 := (A1.ext (Ext.refl _)).lt
  refine (rat_Norm _ _ _ _ _ _ _ _ _ _ (h.ext x0) (g.ext x0) b1 b2).mono ?_
  rw [hq]
  rintro e w1 ⟨a1, c1, a2, c2, rfl, hr1, hf1, hr2, hf2, hx1⟩
  obtain ⟨k0_0, k0_1, k0_2, f0_0, f0_1, f0_2⟩ := box3 A0 hx1
  have z0 := (A0.ext hx1).lt
  obtain ⟨k1_0, k1_1, k1_2, f1_0, f1_1, f1_2⟩ := box3 A1 hx1
  have z1 := (A1.ext hx1).lt
  have P1 := Arr.alloc w1 55 [.bool (decide (q.num < 0)), .slice a1 (len q.num.natAbs) c1, .slice a2 (len q.den) c2]
  go_wp2_with fail
  refine (int_Neg _ _ _ _ _ _ (hr1.ext ((Ext.refl _).alloc _))).mono ?_
  rw [sgn_num]
  rintro e w2 ⟨a3, c3, rfl, hr3, hf3, hx2⟩
  obtain ⟨p0, p1, p2, p3, p4, p5⟩ := box3 P1 hx2
  have pz := (P1.ext hx2).lt
  obtain ⟨k0_0, k0_1, k0_2, f0_0, f0_1, f0_2⟩ := box3 A0 ((hx1.alloc _).trans hx2)
  have z0 := (A0.ext ((hx1.alloc _).trans hx2)).lt
  obtain ⟨k1_0, k1_1, k1_2, f1_0, f1_1, f1_2⟩ := box3 A1 ((hx1.alloc _).trans hx2)
  have z1 := (A1.ext ((hx1.alloc _).trans hx2)).lt
  go_wp2
  have E : Ext w w2 := x0.trans ((hx1.alloc _).trans hx2)
  refine bodyPost_ret (v := .agg #[.bool (decide ((-q).num < 0)), .slice a3 (len (-q).num.natAbs) c3, .slice a2 (len (-q).den) c2]) (by simp [results, Tryz.results81, go_sem, *]) rfl ?_
  refine ⟨a3, c3, a2, c2, rfl, ?_, hf3.mono (by have := (x0.trans hx1).size; simp; omega), ?_, hf2.mono x0.size, ?_⟩
  · refine Raw.setCell (Raw.setCell (Raw.setCell (Raw.setCell (Raw.setCell hr3 _ _ ?_) _ _ ?_) _ _ ?_) _ _ ?_) _ _ ?_ <;> (refine hf3.ne ?_; simp; try omega)
  · have d1 := (hr2.ext ((Ext.refl _).alloc _)).ext hx2
    have d2 := hr2.setNew d1 ⟨w1.heap.size, 0, none⟩ (.bool (decide (0 < q.num))) (Nat.le_refl _)
    have d3 := hr2.setNew d2 ⟨w1.heap.size, 1, none⟩ (.slice a3 (len q.num.natAbs) c3) (Nat.le_refl _)
    exact d3.touch (Touch.three (lo := w.heap.size) (hi := W.heap.size) _ (by omega) (by rw [Z0.out]; omega) _ _ _) hf2.out
  · exact Ext.set3 (Ext.set2 E (by have := (x0.trans hx1).size; omega) _ _) (by omega) _ _ _

set_option maxHeartbeats 1000000 in
/-- rational.Mul, small numbers. -/
theorem rat_Mul_small (w : World) (s : Bool) (a b : Option Addr) (k c j d n m : Nat) (h : Raw w a k c n) (g : Raw w b j d m) (s' : Bool) (a' b' : Option Addr) (k' c' j' d' n' m' : Nat) (h' : Raw w a' k' c' n') (g' : Raw w b' j' d' m') (hn : n < 2147483648) (hm : m < 2147483648) (hn' : n' < 2147483648) (hm' : m' < 2147483648) :
    Calls Tryz.prog 96 #[.agg #[.bool s, .slice a k c, .slice b j d], .agg #[.bool s', .slice a' k' c', .slice b' j' d']] w (NewRat (mkRat (sgn s n) m * mkRat (sgn s' n') m') w) := by
  have HN := Lib.hid hn; have HM := Lib.hid hm; have HN' := Lib.hid hn'; have HM' := Lib.hid hm'; clear hn hm hn' hm'
  go_enter Tryz.func96, Tryz.ntmps96
  go_wp2_with fail
  obtain ⟨W, hW, x0, Z0, A0, A1, A2⟩ := boxes3 w 55 [.bool s, .slice a k c, .slice b j d] 55 [.bool s', .slice a' k' c', .slice b' j' d'] 55 [.bool false, .slice none 0 0, .slice none 0 0]
  rw [← hW]
  clear hW
  obtain ⟨k0_0, k0_1, k0_2, f0_0, f0_1, f0_2⟩ := box3 A0 (Ext.refl _)
  have z0 := (A0.ext (Ext.refl _)).lt
  obtain ⟨k1_0, k1_1, k1_2, f1_0, f1_1, f1_2⟩ := box3 A1 (Ext.refl _)
  have z1 := (A1.ext (Ext.refl _)).lt
  obtain ⟨k2_0, k2_1, k2_2, f2_0, f2_1, f2_2⟩ := box3 A2 (Ext.refl _)
  have z2 := (A2.ext (Ext.refl _)).lt
  refine (rat_small _ _ _ _ _ _ _ _ _ _ (h.ext x0) (g.ext x0) HN.out HM.out).mono ?_
  rintro e w1 ⟨x, y, rfl, hx1, hx2, hy1, hy2, hxy, hx⟩
  have HXY := Lib.hid hxy; clear hxy
  obtain ⟨k0_0, k0_1, k0_2, f0_0, f0_1, f0_2⟩ := box3 A0 hx
  have z0 := (A0.ext hx).lt
  obtain ⟨k1_0, k1_1, k1_2, f1_0, f1_1, f1_2⟩ := box3 A1 hx
  have z1 := (A1.ext hx).lt
  obtain ⟨k2_0, k2_1, k2_2, f2_0, f2_1, f2_2⟩ := box3 A2 hx
  have z2 := (A2.ext hx).lt
  go_wp2_with fail
  refine (rat_small _ _ _ _ _ _ _ _ _ _ ((h'.ext x0).ext hx) ((g'.ext x0).ext hx) HN'.out HM'.out).mono ?_
  rintro e w2 ⟨x', y', rfl, hx1', hx2', hy1', hy2', hxy', hx'⟩
  have HXY' := Lib.hid hxy'; clear hxy'
  obtain ⟨k0_0, k0_1, k0_2, f0_0, f0_1, f0_2⟩ := box3 A0 (hx.trans hx')
  have z0 := (A0.ext (hx.trans hx')).lt
  obtain ⟨k1_0, k1_1, k1_2, f1_0, f1_1, f1_2⟩ := box3 A1 (hx.trans hx')
  have z1 := (A1.ext (hx.trans hx')).lt
  obtain ⟨k2_0, k2_1, k2_2, f2_0, f2_1, f2_2⟩ := box3 A2 (hx.trans hx')
  have z2 := (A2.ext (hx.trans hx')).lt
  obtain ⟨m1, m2⟩ := small_mul hx1 hx2 hx1' hx2'
  obtain ⟨m3, m4⟩ := small_mul_nat hy1 hy2 hy1' hy2'
  have m3' : 0 < (y : Int) * (y' : Int) := by rw [← Int.natCast_mul]; omega
  have m4' : (y : Int) * (y' : Int) ≤ 4611686018427387904 := by rw [← Int.natCast_mul]; omega
  go_wp2_with fail
  rw [← Int.natCast_mul]
  refine (rat_quotient _ _ _ (by omega) (by omega) m3 (by omega)).mono ?_
  intro e wz hN
  rw [← Rat.mkRat_mul_mkRat, HXY.out, HXY'.out] at hN
  obtain ⟨az, cz, az', cz', rfl, hrz, hfz, hrz', hfz', hxz⟩ := id hN
  obtain ⟨k0_0, k0_1, k0_2, f0_0, f0_1, f0_2⟩ := box3 A0 ((hx.trans hx').trans hxz)
  have z0 := (A0.ext ((hx.trans hx').trans hxz)).lt
  obtain ⟨k1_0, k1_1, k1_2, f1_0, f1_1, f1_2⟩ := box3 A1 ((hx.trans hx').trans hxz)
  have z1 := (A1.ext ((hx.trans hx').trans hxz)).lt
  obtain ⟨k2_0, k2_1, k2_2, f2_0, f2_1, f2_2⟩ := box3 A2 ((hx.trans hx').trans hxz)
  have z2 := (A2.ext ((hx.trans hx').trans hxz)).lt
  go_wp2
  exact bodyPost_ret (by simp [results, Tryz.results96, go_sem, *]) rfl (NewRat.touch (hN.base (hx.trans hx')) x0 (Touch.three _ (by omega) (by rw [Z0.out]; omega) _ _ _))

set_option maxHeartbeats 2000000 in
set_option maxRecDepth 100000 in
/-- rational.Mul, a large number. -/
theorem rat_Mul_large (w : World) (s : Bool) (a b : Option Addr) (k c j d n m : Nat) (h : Raw w a k c n) (g : Raw w b j d m) (s' : Bool) (a' b' : Option Addr) (k' c' j' d' n' m' : Nat) (h' : Raw w a' k' c' n') (g' : Raw w b' j' d' m') (b1 : len n < 100000000) (b2 : len m < 100000000) (b1' : len n' < 100000000) (b2' : len m' < 100000000) (hl : ¬ ((n < 2147483648 ∧ m < 2147483648) ∧ (n' < 2147483648 ∧ m' < 2147483648))) :
    Calls Tryz.prog 96 #[.agg #[.bool s, .slice a k c, .slice b j d], .agg #[.bool s', .slice a' k' c', .slice b' j' d']] w (NewRat (mkRat (sgn s n) m * mkRat (sgn s' n') m') w) := by
  by_cases ha : n < 2147483648 ∧ m < 2147483648
  · have hb : ¬ (n' < 2147483648 ∧ m' < 2147483648) := fun h => hl ⟨ha, h⟩
    have HA := Lib.hid ha; have HB := Lib.hid hb; clear ha hb hl
    go_enter Tryz.func96, Tryz.ntmps96
    go_wp2_with fail
    obtain ⟨W, hW, x0, Z0, A0, A1, A2⟩ := boxes3 w 55 [.bool s, .slice a k c, .slice b j d] 55 [.bool s', .slice a' k' c', .slice b' j' d'] 55 [.bool false, .slice none 0 0, .slice none 0 0]
    rw [← hW]
    clear hW
    obtain ⟨k0_0, k0_1, k0_2, f0_0, f0_1, f0_2⟩ := box3 A0 (Ext.refl _)
    have z0 := (A0.ext (Ext.refl _)).lt
    obtain ⟨k1_0, k1_1, k1_2, f1_0, f1_1, f1_2⟩ := box3 A1 (Ext.refl _)
    have z1 := (A1.ext (Ext.refl _)).lt
    obtain ⟨k2_0, k2_1, k2_2, f2_0, f2_1, f2_2⟩ := box3 A2 (Ext.refl _)
    have z2 := (A2.ext (Ext.refl _)).lt
    refine (rat_small _ _ _ _ _ _ _ _ _ _ (h.ext x0) (g.ext x0) HA.out.1 HA.out.2).mono ?_
    rintro e w1 ⟨x, y, rfl, _, _, _, _, _, hx⟩
    obtain ⟨k0_0, k0_1, k0_2, f0_0, f0_1, f0_2⟩ := box3 A0 hx
    have z0 := (A0.ext hx).lt
    obtain ⟨k1_0, k1_1, k1_2, f1_0, f1_1, f1_2⟩ := box3 A1 hx
    have z1 := (A1.ext hx).lt
    obtain ⟨k2_0, k2_1, k2_2, f2_0, f2_1, f2_2⟩ := box3 A2 hx
    have z2 := (A2.ext hx).lt
    go_wp2_with fail
    refine (rat_small_no _ _ _ _ _ _ _ _ _ _ ((h'.ext x0).ext hx) ((g'.ext x0).ext hx) HB.out).mono ?_
    rintro e w2 ⟨rfl, hx'⟩
    have y2 : Ext W w2 := hx.trans hx'
    obtain ⟨k0_0, k0_1, k0_2, f0_0, f0_1, f0_2⟩ := box3 A0 y2
    have z0 := (A0.ext y2).lt
    obtain ⟨k1_0, k1_1, k1_2, f1_0, f1_1, f1_2⟩ := box3 A1 y2
    have z1 := (A1.ext y2).lt
    obtain ⟨k2_0, k2_1, k2_2, f2_0, f2_1, f2_2⟩ := box3 A2 y2
    have z2 := (A2.ext y2).lt
    go_wp2_with fail
    refine (rat_parts _ _ _ _ _ _ _ _ _ _ ((h.ext x0).ext y2) ((g.ext x0).ext y2)).mono ?_
    rintro e w3 ⟨s1, a1, k1, c1, n1, e1, j1, d1, m1, rfl, h1, g1, hm1, hv, l1, l2, hx3⟩
    have HV := Lib.hid hv; clear hv
    have y3 : Ext W w3 := y2.trans hx3
    obtain ⟨k0_0, k0_1, k0_2, f0_0, f0_1, f0_2⟩ := box3 A0 y3
    have z0 := (A0.ext y3).lt
    obtain ⟨k1_0, k1_1, k1_2, f1_0, f1_1, f1_2⟩ := box3 A1 y3
    have z1 := (A1.ext y3).lt
    obtain ⟨k2_0, k2_1, k2_2, f2_0, f2_1, f2_2⟩ := box3 A2 y3
    have z2 := (A2.ext y3).lt
    have P3 := Arr.alloc w3 53 [.bool s1, .slice a1 k1 c1]
    have y3' := y3.alloc (.cells #[.bool s1, .slice a1 k1 c1] 53)
    go_wp2_with fail
    refine (rat_parts _ _ _ _ _ _ _ _ _ _ ((h'.ext x0).ext y3') ((g'.ext x0).ext y3')).mono ?_
    rintro e w4 ⟨s2, a2, k2, c2, n2, e2, j2, d2, m2, rfl, h2, g2, hm2, hv2, l3, l4, hx4⟩
    have HV2 := Lib.hid hv2; clear hv2
    have y4 : Ext W w4 := y3'.trans hx4
    obtain ⟨k0_0, k0_1, k0_2, f0_0, f0_1, f0_2⟩ := box3 A0 y4
    have z0 := (A0.ext y4).lt
    obtain ⟨k1_0, k1_1, k1_2, f1_0, f1_1, f1_2⟩ := box3 A1 y4
    have z1 := (A1.ext y4).lt
    obtain ⟨k2_0, k2_1, k2_2, f2_0, f2_1, f2_2⟩ := box3 A2 y4
    have z2 := (A2.ext y4).lt
    obtain ⟨p0, p1, p2, p3⟩ := box2 P3 hx4
    have pz := (P3.ext hx4).lt
    have Q4 := Arr.alloc w4 53 [.bool s2, .slice a2 k2 c2]
    have y4' := y4.alloc (.cells #[.bool s2, .slice a2 k2 c2] 53)
    have v4 := ((Ext.refl w3).alloc (.cells #[.bool s1, .slice a1 k1 c1] 53)).trans (hx4.alloc (.cells #[.bool s2, .slice a2 k2 c2] 53))
    have u4 := (Ext.refl w4).alloc (.cells #[.bool s2, .slice a2 k2 c2] 53)
    go_wp2_with fail
    refine (int_Mul _ _ _ _ _ _ _ _ _ _ _ (h1.ext v4) (h2.ext u4) (by omega) (by omega)).mono ?_
    rintro e w5 ⟨a5, c5, rfl, hr5, hf5, hx5⟩
    have y5 : Ext W w5 := y4'.trans hx5
    obtain ⟨k0_0, k0_1, k0_2, f0_0, f0_1, f0_2⟩ := box3 A0 y5
    have z0 := (A0.ext y5).lt
    obtain ⟨k1_0, k1_1, k1_2, f1_0, f1_1, f1_2⟩ := box3 A1 y5
    have z1 := (A1.ext y5).lt
    obtain ⟨k2_0, k2_1, k2_2, f2_0, f2_1, f2_2⟩ := box3 A2 y5
    have z2 := (A2.ext y5).lt
    go_wp2_with fail
    refine (nat_Mul _ _ _ _ _ _ _ _ _ ((g1.ext v4).ext hx5) ((g2.ext u4).ext hx5) (by omega) (by omega)).mono ?_
    rintro e w6 ⟨a6, c6, rfl, hr6, hf6, hx6⟩
    have y6 : Ext W w6 := y5.trans hx6
    obtain ⟨k0_0, k0_1, k0_2, f0_0, f0_1, f0_2⟩ := box3 A0 y6
    have z0 := (A0.ext y6).lt
    obtain ⟨k1_0, k1_1, k1_2, f1_0, f1_1, f1_2⟩ := box3 A1 y6
    have z1 := (A1.ext y6).lt
    obtain ⟨k2_0, k2_1, k2_2, f2_0, f2_1, f2_2⟩ := box3 A2 y6
    have z2 := (A2.ext y6).lt
    have bl1 : len (sgn s1 n1 * sgn s2 n2).natAbs ≤ len n1 + len n2 := by rw [Int.natAbs_mul, sgn_natAbs, sgn_natAbs]; exact len_mul _ _
    have bl2 := len_mul m1 m2
    go_wp2_with fail
    refine (rat_lowest _ _ _ _ _ _ _ _ _ _ (hr5.ext hx6) hr6 (Nat.mul_pos hm1 hm2) (by omega) (by omega)).mono ?_
    intro e wz hN
    rw [sgn_num, ← Rat.mkRat_mul_mkRat, HV.out, HV2.out] at hN
    obtain ⟨az, cz, az', cz', rfl, hrz, hfz, hrz', hfz', hxz⟩ := id hN
    obtain ⟨k0_0, k0_1, k0_2, f0_0, f0_1, f0_2⟩ := box3 A0 (y6.trans hxz)
    have z0 := (A0.ext (y6.trans hxz)).lt
    obtain ⟨k1_0, k1_1, k1_2, f1_0, f1_1, f1_2⟩ := box3 A1 (y6.trans hxz)
    have z1 := (A1.ext (y6.trans hxz)).lt
    obtain ⟨k2_0, k2_1, k2_2, f2_0, f2_1, f2_2⟩ := box3 A2 (y6.trans hxz)
    have z2 := (A2.ext (y6.trans hxz)).lt
    go_wp2
    exact bodyPost_ret (by simp [results, Tryz.results96, go_sem, *]) rfl (NewRat.touch (hN.base y6) x0 (Touch.three _ (by omega) (by rw [Z0.out]; omega) _ _ _))
  · by_cases hb : n' < 2147483648 ∧ m' < 2147483648
    · have HA := Lib.hid ha; have HB := Lib.hid hb; clear ha hb hl
      go_enter Tryz.func96, Tryz.ntmps96
      go_wp2_with fail
      obtain ⟨W, hW, x0, Z0, A0, A1, A2⟩ := boxes3 w 55 [.bool s, .slice a k c, .slice b j d] 55 [.bool s', .slice a' k' c', .slice b' j' d'] 55 [.bool false, .slice none 0 0, .slice none 0 0]
      rw [← hW]
      clear hW
      obtain ⟨k0_0, k0_1, k0_2, f0_0, f0_1, f0_2⟩ := box3 A0 (Ext.refl _)
      have z0 := (A0.ext (Ext.refl _)).lt
      obtain ⟨k1_0, k1_1, k1_2, f1_0, f1_1, f1_2⟩ := box3 A1 (Ext.refl _)
      have z1 := (A1.ext (Ext.refl _)).lt
      obtain ⟨k2_0, k2_1, k2_2, f2_0, f2_1, f2_2⟩ := box3 A2 (Ext.refl _)
      have z2 := (A2.ext (Ext.refl _)).lt
      refine (rat_small_no _ _ _ _ _ _ _ _ _ _ (h.ext x0) (g.ext x0) HA.out).mono ?_
      rintro e w1 ⟨rfl, hx⟩
      obtain ⟨k0_0, k0_1, k0_2, f0_0, f0_1, f0_2⟩ := box3 A0 hx
      have z0 := (A0.ext hx).lt
      obtain ⟨k1_0, k1_1, k1_2, f1_0, f1_1, f1_2⟩ := box3 A1 hx
      have z1 := (A1.ext hx).lt
      obtain ⟨k2_0, k2_1, k2_2, f2_0, f2_1, f2_2⟩ := box3 A2 hx
      have z2 := (A2.ext hx).lt
      go_wp2_with fail
      refine (rat_small _ _ _ _ _ _ _ _ _ _ ((h'.ext x0).ext hx) ((g'.ext x0).ext hx) HB.out.1 HB.out.2).mono ?_
      rintro e w2 ⟨x', y', rfl, _, _, _, _, _, hx'⟩
      have y2 : Ext W w2 := hx.trans hx'
      obtain ⟨k0_0, k0_1, k0_2, f0_0, f0_1, f0_2⟩ := box3 A0 y2
      have z0 := (A0.ext y2).lt
      obtain ⟨k1_0, k1_1, k1_2, f1_0, f1_1, f1_2⟩ := box3 A1 y2
      have z1 := (A1.ext y2).lt
      obtain ⟨k2_0, k2_1, k2_2, f2_0, f2_1, f2_2⟩ := box3 A2 y2
      have z2 := (A2.ext y2).lt
      go_wp2_with fail
      refine (rat_parts _ _ _ _ _ _ _ _ _ _ ((h.ext x0).ext y2) ((g.ext x0).ext y2)).mono ?_
      rintro e w3 ⟨s1, a1, k1, c1, n1, e1, j1, d1, m1, rfl, h1, g1, hm1, hv, l1, l2, hx3⟩
      have HV := Lib.hid hv; clear hv
      have y3 : Ext W w3 := y2.trans hx3
      obtain ⟨k0_0, k0_1, k0_2, f0_0, f0_1, f0_2⟩ := box3 A0 y3
      have z0 := (A0.ext y3).lt
      obtain ⟨k1_0, k1_1, k1_2, f1_0, f1_1, f1_2⟩ := box3 A1 y3
      have z1 := (A1.ext y3).lt
      obtain ⟨k2_0, k2_1, k2_2, f2_0, f2_1, f2_2⟩ := box3 A2 y3
      have z2 := (A2.ext y3).lt
      have P3 := Arr.alloc w3 53 [.bool s1, .slice a1 k1 c1]
      have y3' := y3.alloc (.cells #[.bool s1, .slice a1 k1 c1] 53)
      go_wp2_with fail
      refine (rat_parts _ _ _ _ _ _ _ _ _ _ ((h'.ext x0).ext y3') ((g'.ext x0).ext y3')).mono ?_
      rintro e w4 ⟨s2, a2, k2, c2, n2, e2, j2, d2, m2, rfl, h2, g2, hm2, hv2, l3, l4, hx4⟩
      have HV2 := Lib.hid hv2; clear hv2
      have y4 : Ext W w4 := y3'.trans hx4
      obtain ⟨k0_0, k0_1, k0_2, f0_0, f0_1, f0_2⟩ := box3 A0 y4
      have z0 := (A0.ext y4).lt
      obtain ⟨k1_0, k1_1, k1_2, f1_0, f1_1, f1_2⟩ := box3 A1 y4
      have z1 := (A1.ext y4).lt
      obtain ⟨k2_0, k2_1, k2_2, f2_0, f2_1, f2_2⟩ := box3 A2 y4
      have z2 := (A2.ext y4).lt
      obtain ⟨p0, p1, p2, p3⟩ := box2 P3 hx4
      have pz := (P3.ext hx4).lt
      have Q4 := Arr.alloc w4 53 [.bool s2, .slice a2 k2 c2]
      have y4' := y4.alloc (.cells #[.bool s2, .slice a2 k2 c2] 53)
      have v4 := ((Ext.refl w3).alloc (.cells #[.bool s1, .slice a1 k1 c1] 53)).trans (hx4.alloc (.cells #[.bool s2, .slice a2 k2 c2] 53))
      have u4 := (Ext.refl w4).alloc (.cells #[.bool s2, .slice a2 k2 c2] 53)
      go_wp2_with fail
      refine (int_Mul _ _ _ _ _ _ _ _ _ _ _ (h1.ext v4) (h2.ext u4) (by omega) (by omega)).mono ?_
      rintro e w5 ⟨a5, c5, rfl, hr5, hf5, hx5⟩
      have y5 : Ext W w5 := y4'.trans hx5
      obtain ⟨k0_0, k0_1, k0_2, f0_0, f0_1, f0_2⟩ := box3 A0 y5
      have z0 := (A0.ext y5).lt
      obtain ⟨k1_0, k1_1, k1_2, f1_0, f1_1, f1_2⟩ := box3 A1 y5
      have z1 := (A1.ext y5).lt
      obtain ⟨k2_0, k2_1, k2_2, f2_0, f2_1, f2_2⟩ := box3 A2 y5
      have z2 := (A2.ext y5).lt
      go_wp2_with fail
      refine (nat_Mul _ _ _ _ _ _ _ _ _ ((g1.ext v4).ext hx5) ((g2.ext u4).ext hx5) (by omega) (by omega)).mono ?_
      rintro e w6 ⟨a6, c6, rfl, hr6, hf6, hx6⟩
      have y6 : Ext W w6 := y5.trans hx6
      obtain ⟨k0_0, k0_1, k0_2, f0_0, f0_1, f0_2⟩ := box3 A0 y6
      have z0 := (A0.ext y6).lt
      obtain ⟨k1_0, k1_1, k1_2, f1_0, f1_1, f1_2⟩ := box3 A1 y6
      have z1 := (A1.ext y6).lt
      obtain ⟨k2_0, k2_1, k2_2, f2_0, f2_1, f2_2⟩ := box3 A2 y6
      have z2 := (A2.ext y6).lt
      have bl1 : len (sgn s1 n1 * sgn s2 n2).natAbs ≤ len n1 + len n2 := by rw [Int.natAbs_mul, sgn_natAbs, sgn_natAbs]; exact len_mul _ _
      have bl2 := len_mul m1 m2
      go_wp2_with fail
      refine (rat_lowest _ _ _ _ _ _ _ _ _ _ (hr5.ext hx6) hr6 (Nat.mul_pos hm1 hm2) (by omega) (by omega)).mono ?_
      intro e wz hN
      rw [sgn_num, ← Rat.mkRat_mul_mkRat, HV.out, HV2.out] at hN
      obtain ⟨az, cz, az', cz', rfl, hrz, hfz, hrz', hfz', hxz⟩ := id hN
      obtain ⟨k0_0, k0_1, k0_2, f0_0, f0_1, f0_2⟩ := box3 A0 (y6.trans hxz)
      have z0 := (A0.ext (y6.trans hxz)).lt
      obtain ⟨k1_0, k1_1, k1_2, f1_0, f1_1, f1_2⟩ := box3 A1 (y6.trans hxz)
      have z1 := (A1.ext (y6.trans hxz)).lt
      obtain ⟨k2_0, k2_1, k2_2, f2_0, f2_1, f2_2⟩ := box3 A2 (y6.trans hxz)
      have z2 := (A2.ext (y6.trans hxz)).lt
      go_wp2
      exact bodyPost_ret (by simp [results, Tryz.results96, go_sem, *]) rfl (NewRat.touch (hN.base y6) x0 (Touch.three _ (by omega) (by rw [Z0.out]; omega) _ _ _))
    · have HA := Lib.hid ha; have HB := Lib.hid hb; clear ha hb hl
      go_enter Tryz.func96, Tryz.ntmps96
      go_wp2_with fail
      obtain ⟨W, hW, x0, Z0, A0, A1, A2⟩ := boxes3 w 55 [.bool s, .slice a k c, .slice b j d] 55 [.bool s', .slice a' k' c', .slice b' j' d'] 55 [.bool false, .slice none 0 0, .slice none 0 0]
      rw [← hW]
      clear hW
      obtain ⟨k0_0, k0_1, k0_2, f0_0, f0_1, f0_2⟩ := box3 A0 (Ext.refl _)
      have z0 := (A0.ext (Ext.refl _)).lt
      obtain ⟨k1_0, k1_1, k1_2, f1_0, f1_1, f1_2⟩ := box3 A1 (Ext.refl _)
      have z1 := (A1.ext (Ext.refl _)).lt
      obtain ⟨k2_0, k2_1, k2_2, f2_0, f2_1, f2_2⟩ := box3 A2 (Ext.refl _)
      have z2 := (A2.ext (Ext.refl _)).lt
      refine (rat_small_no _ _ _ _ _ _ _ _ _ _ (h.ext x0) (g.ext x0) HA.out).mono ?_
      rintro e w1 ⟨rfl, hx⟩
      obtain ⟨k0_0, k0_1, k0_2, f0_0, f0_1, f0_2⟩ := box3 A0 hx
      have z0 := (A0.ext hx).lt
      obtain ⟨k1_0, k1_1, k1_2, f1_0, f1_1, f1_2⟩ := box3 A1 hx
      have z1 := (A1.ext hx).lt
      obtain ⟨k2_0, k2_1, k2_2, f2_0, f2_1, f2_2⟩ := box3 A2 hx
      have z2 := (A2.ext hx).lt
      go_wp2_with fail
      refine (rat_small_no _ _ _ _ _ _ _ _ _ _ ((h'.ext x0).ext hx) ((g'.ext x0).ext hx) HB.out).mono ?_
      rintro e w2 ⟨rfl, hx'⟩
      have y2 : Ext W w2 := hx.trans hx'
      obtain ⟨k0_0, k0_1, k0_2, f0_0, f0_1, f0_2⟩ := box3 A0 y2
      have z0 := (A0.ext y2).lt
      obtain ⟨k1_0, k1_1, k1_2, f1_0, f1_1, f1_2⟩ := box3 A1 y2
      have z1 := (A1.ext y2).lt
      obtain ⟨k2_0, k2_1, k2_2, f2_0, f2_1, f2_2⟩ := box3 A2 y2
      have z2 := (A2.ext y2).lt
      go_wp2_with fail
      refine (rat_parts _ _ _ _ _ _ _ _ _ _ ((h.ext x0).ext y2) ((g.ext x0).ext y2)).mono ?_
      rintro e w3 ⟨s1, a1, k1, c1, n1, e1, j1, d1, m1, rfl, h1, g1, hm1, hv, l1, l2, hx3⟩
      have HV := Lib.hid hv; clear hv
      have y3 : Ext W w3 := y2.trans hx3
      obtain ⟨k0_0, k0_1, k0_2, f0_0, f0_1, f0_2⟩ := box3 A0 y3
      have z0 := (A0.ext y3).lt
      obtain ⟨k1_0, k1_1, k1_2, f1_0, f1_1, f1_2⟩ := box3 A1 y3
      have z1 := (A1.ext y3).lt
      obtain ⟨k2_0, k2_1, k2_2, f2_0, f2_1, f2_2⟩ := box3 A2 y3
      have z2 := (A2.ext y3).lt
      have P3 := Arr.alloc w3 53 [.bool s1, .slice a1 k1 c1]
      have y3' := y3.alloc (.cells #[.bool s1, .slice a1 k1 c1] 53)
      go_wp2_with fail
      refine (rat_parts _ _ _ _ _ _ _ _ _ _ ((h'.ext x0).ext y3') ((g'.ext x0).ext y3')).mono ?_
      rintro e w4 ⟨s2, a2, k2, c2, n2, e2, j2, d2, m2, rfl, h2, g2, hm2, hv2, l3, l4, hx4⟩
      have HV2 := Lib.hid hv2; clear hv2
      have y4 : Ext W w4 := y3'.trans hx4
      obtain ⟨k0_0, k0_1, k0_2, f0_0, f0_1, f0_2⟩ := box3 A0 y4
      have z0 := (A0.ext y4).lt
      obtain ⟨k1_0, k1_1, k1_2, f1_0, f1_1, f1_2⟩ := box3 A1 y4
      have z1 := (A1.ext y4).lt
      obtain ⟨k2_0, k2_1, k2_2, f2_0, f2_1, f2_2⟩ := box3 A2 y4
      have z2 := (A2.ext y4).lt
      obtain ⟨p0, p1, p2, p3⟩ := box2 P3 hx4
      have pz := (P3.ext hx4).lt
      have Q4 := Arr.alloc w4 53 [.bool s2, .slice a2 k2 c2]
      have y4' := y4.alloc (.cells #[.bool s2, .slice a2 k2 c2] 53)
      have v4 := ((Ext.refl w3).alloc (.cells #[.bool s1, .slice a1 k1 c1] 53)).trans (hx4.alloc (.cells #[.bool s2, .slice a2 k2 c2] 53))
      have u4 := (Ext.refl w4).alloc (.cells #[.bool s2, .slice a2 k2 c2] 53)
      go_wp2_with fail
      refine (int_Mul _ _ _ _ _ _ _ _ _ _ _ (h1.ext v4) (h2.ext u4) (by omega) (by omega)).mono ?_
      rintro e w5 ⟨a5, c5, rfl, hr5, hf5, hx5⟩
      have y5 : Ext W w5 := y4'.trans hx5
      obtain ⟨k0_0, k0_1, k0_2, f0_0, f0_1, f0_2⟩ := box3 A0 y5
      have z0 := (A0.ext y5).lt
      obtain ⟨k1_0, k1_1, k1_2, f1_0, f1_1, f1_2⟩ := box3 A1 y5
      have z1 := (A1.ext y5).lt
      obtain ⟨k2_0, k2_1, k2_2, f2_0, f2_1, f2_2⟩ := box3 A2 y5
      have z2 := (A2.ext y5).lt
      go_wp2_with fail
      refine (nat_Mul _ _ _ _ _ _ _ _ _ ((g1.ext v4).ext hx5) ((g2.ext u4).ext hx5) (by omega) (by omega)).mono ?_
      rintro e w6 ⟨a6, c6, rfl, hr6, hf6, hx6⟩
      have y6 : Ext W w6 := y5.trans hx6
      obtain ⟨k0_0, k0_1, k0_2, f0_0, f0_1, f0_2⟩ := box3 A0 y6
      have z0 := (A0.ext y6).lt
      obtain ⟨k1_0, k1_1, k1_2, f1_0, f1_1, f1_2⟩ := box3 A1 y6
      have z1 := (A1.ext y6).lt
      obtain ⟨k2_0, k2_1, k2_2, f2_0, f2_1, f2_2⟩ := box3 A2 y6
      have z2 := (A2.ext y6).lt
      have bl1 : len (sgn s1 n1 * sgn s2 n2).natAbs ≤ len n1 + len n2 := by rw [Int.natAbs_mul, sgn_natAbs, sgn_natAbs]; exact len_mul _ _
      have bl2 := len_mul m1 m2
      go_wp2_with fail
      refine (rat_lowest _ _ _ _ _ _ _ _ _ _ (hr5.ext hx6) hr6 (Nat.mul_pos hm1 hm2) (by omega) (by omega)).mono ?_
      intro e wz hN
      rw [sgn_num, ← Rat.mkRat_mul_mkRat, HV.out, HV2.out] at hN
      obtain ⟨az, cz, az', cz', rfl, hrz, hfz, hrz', hfz', hxz⟩ := id hN
      obtain ⟨k0_0, k0_1, k0_2, f0_0, f0_1, f0_2⟩ := box3 A0 (y6.trans hxz)
      have z0 := (A0.ext (y6.trans hxz)).lt
      obtain ⟨k1_0, k1_1, k1_2, f1_0, f1_1, f1_2⟩ := box3 A1 (y6.trans hxz)
      have z1 := (A1.ext (y6.trans hxz)).lt
      obtain ⟨k2_0, k2_1, k2_2, f2_0, f2_1, f2_2⟩ := box3 A2 (y6.trans hxz)
      have z2 := (A2.ext (y6.trans hxz)).lt
      go_wp2
      exact bodyPost_ret (by simp [results, Tryz.results96, go_sem, *]) rfl (NewRat.touch (hN.base y6) x0 (Touch.three _ (by omega) (by rw [Z0.out]; omega) _ _ _))

/-- rational.Mul. -/
theorem rat_Mul (w : World) (s : Bool) (a b : Option Addr) (k c j d n m : Nat) (h : Raw w a k c n) (g : Raw w b j d m) (s' : Bool) (a' b' : Option Addr) (k' c' j' d' n' m' : Nat) (h' : Raw w a' k' c' n') (g' : Raw w b' j' d' m') (b1 : len n < 100000000) (b2 : len m < 100000000) (b1' : len n' < 100000000) (b2' : len m' < 100000000) :
    Calls Tryz.prog 96 #[.agg #[.bool s, .slice a k c, .slice b j d], .agg #[.bool s', .slice a' k' c', .slice b' j' d']] w (NewRat (mkRat (sgn s n) m * mkRat (sgn s' n') m') w) := by
  by_cases hl : (n < 2147483648 ∧ m < 2147483648) ∧ (n' < 2147483648 ∧ m' < 2147483648)
  · exact rat_Mul_small w _ _ _ _ _ _ _ _ _ h g _ _ _ _ _ _ _ _ _ h' g' hl.1.1 hl.1.2 hl.2.1 hl.2.2
  · exact rat_Mul_large w _ _ _ _ _ _ _ _ _ h g _ _ _ _ _ _ _ _ _ h' g' b1 b2 b1' b2' hl

end Go.Proofs.YtgihpfkjpfanmaaGreat

/- Contracts of cmp.Compare and rational.Compare. -/
namespace Go.Proofs.YtgihpfkjpfanmaaGreat
open Go.RowKit

/-- -1, 0 or 1. -/
def cmpQ (p q : Rat) : Int := cmpZ (p.num * q.den) (q.num * p.den)
theorem cmpQ_lt {p q : Rat} : cmpQ p q < 0 ↔ p < q := by
  rw [Rat.lt_iff]; unfold cmpQ cmpZ; split
  · simp [*]
  · split <;> simp [*]
theorem cmpQ_gt {p q : Rat} : 0 < cmpQ p q ↔ q < p := by
  rw [Rat.lt_iff]; unfold cmpQ cmpZ; split
  · simp; omega
  · split
    · simp; omega
    · simp; omega
theorem cmpQ_eq {p q : Rat} : cmpQ p q = 0 ↔ p = q := by
  rw [Rat.eq_iff_mul_eq_mul]; unfold cmpQ cmpZ; split
  · simp; omega
  · split
    · simp [*]
    · simp [*]
theorem cmpQ_cases (p q : Rat) : cmpQ p q = -1 ∨ cmpQ p q = 0 ∨ cmpQ p q = 1 := by
  unfold cmpQ cmpZ; split
  · simp
  · split <;> simp
theorem cmpZ_scale (a b c : Int) (h : 0 < c) : cmpZ (a * c) (b * c) = cmpZ a b := by
  unfold cmpZ
  by_cases h1 : a < b
  · rw [if_pos h1, if_pos (Int.mul_lt_mul_of_pos_right h1 h)]
  · have h2 : ¬ a * c < b * c := fun hh => h1 (Int.lt_of_mul_lt_mul_right hh (Int.le_of_lt h))
    rw [if_neg h1, if_neg h2]
    by_cases h3 : a = b
    · rw [if_pos h3, if_pos (by rw [h3])]
    · rw [if_neg h3, if_neg (fun hh => h3 (Int.eq_of_mul_eq_mul_right (by omega) hh))]
theorem mkRat_scaled (x : Int) (y : Nat) (h : 0 < y) : ∃ g : Nat, 0 < g ∧ x = (mkRat x y).num * g ∧ y = (mkRat x y).den * g := by
  obtain ⟨g, h1, h2, h3⟩ := Rat.mkRat_num_den (n := x) (d := y) (by omega) (n' := (mkRat x y).num) (d' := (mkRat x y).den) (z' := (mkRat x y).den_nz) (c := (mkRat x y).reduced) rfl
  exact ⟨g, by omega, h2, h3⟩
theorem cmpQ_mkRat (x x' : Int) (y y' : Nat) (h : 0 < y) (h' : 0 < y') : cmpQ (mkRat x y) (mkRat x' y') = cmpZ (x * y') (x' * y) := by
  obtain ⟨g, g0, e1, e2⟩ := mkRat_scaled x y h
  obtain ⟨g', g0', e1', e2'⟩ := mkRat_scaled x' y' h'
  generalize mkRat x y = p at *
  generalize mkRat x' y' = q at *
  subst e1 e2 e1' e2'
  unfold cmpQ
  rw [← cmpZ_scale _ _ ((g : Int) * (g' : Int)) (Int.mul_pos (by omega) (by omega))]
  congr 1
  · rw [Int.natCast_mul]; simp only [Int.mul_assoc, Int.mul_left_comm, Int.mul_comm]
  · rw [Int.natCast_mul]; simp only [Int.mul_assoc, Int.mul_left_comm, Int.mul_comm]
theorem sign_mul_pos (x : Int) (d : Nat) (h : 0 < d) : (x * (d : Int)).sign = x.sign := by
  have hd : (0 : Int) < (d : Int) := by omega
  rw [Int.sign_mul, Int.sign_eq_one_of_pos hd, Int.mul_one]
theorem cmpQ_sign {p q : Rat} (h : p.num.sign ≠ q.num.sign) : cmpZ p.num.sign q.num.sign = cmpQ p q := by
  have hp := sign_mul_pos p.num q.den (Nat.pos_of_ne_zero q.den_nz)
  have hq := sign_mul_pos q.num p.den (Nat.pos_of_ne_zero p.den_nz)
  unfold cmpQ
  by_cases h1 : p.num.sign < q.num.sign
  · rw [cmpZ_lt h1, cmpZ_lt (sign_lt (by rw [hp, hq]; exact h1))]
  · rw [cmpZ_gt (by omega), cmpZ_gt (sign_lt (by rw [hp, hq]; omega))]

theorem cmp_int_nan (w : World) (x : Int) : Calls Tryz.prog 135 #[.int .i64 x] w fun e w' => e = .returned (.bool false) ∧ w = w' := by
  go_enter Tryz.func135, Tryz.ntmps135
  go_wp2
  go_ret
  exact ⟨by simp, rfl⟩
/-- cmp.Compare. -/
theorem cmp_int (w : World) (x y : Int) : Calls Tryz.prog 69 #[.int .i64 x, .int .i64 y] w fun e w' => e = .returned (.int .i64 (cmpZ x y)) ∧ w = w' := by
  by_cases h1 : x < y
  · have e1 := cmpZ_lt h1
    have E1 := Lib.hid e1; clear e1
    go_enter Tryz.func69, Tryz.ntmps69
    go_wp2_with fail
    refine (cmp_int_nan _ _).mono ?_
    rintro e w' ⟨rfl, rfl⟩
    go_wp2_with fail
    refine (cmp_int_nan _ _).mono ?_
    rintro e w' ⟨rfl, rfl⟩
    go_wp2
    go_ret
    exact ⟨ret_int E1.out.symm, rfl⟩
  · by_cases h2 : y < x
    · have e1 := cmpZ_gt h2
      have E1 := Lib.hid e1; clear e1
      go_enter Tryz.func69, Tryz.ntmps69
      go_wp2_with fail
      refine (cmp_int_nan _ _).mono ?_
      rintro e w' ⟨rfl, rfl⟩
      go_wp2_with fail
      refine (cmp_int_nan _ _).mono ?_
      rintro e w' ⟨rfl, rfl⟩
      go_wp2
      go_ret
      exact ⟨ret_int E1.out.symm, rfl⟩
    · obtain rfl : x = y := by omega
      have e1 : cmpZ x x = 0 := by unfold cmpZ; simp
      have E1 := Lib.hid e1; clear e1
      go_enter Tryz.func69, Tryz.ntmps69
      go_wp2_with fail
      refine (cmp_int_nan _ _).mono ?_
      rintro e w' ⟨rfl, rfl⟩
      go_wp2_with fail
      refine (cmp_int_nan _ _).mono ?_
      rintro e w' ⟨rfl, rfl⟩
      go_wp2
      go_ret
      exact ⟨ret_int E1.out.symm, rfl⟩

theorem cmp_int64_nan (w : World) (x : Int) : Calls Tryz.prog 205 #[.int .i64 x] w fun e w' => e = .returned (.bool false) ∧ w = w' := by
  go_enter Tryz.func205, Tryz.ntmps205
  go_wp2
  go_ret
  exact ⟨by simp, rfl⟩
/-- cmp.Compare. -/
theorem cmp_int64 (w : World) (x y : Int) : Calls Tryz.prog 131 #[.int .i64 x, .int .i64 y] w fun e w' => e = .returned (.int .i64 (cmpZ x y)) ∧ w = w' := by
  by_cases h1 : x < y
  · have e1 := cmpZ_lt h1
    have E1 := Lib.hid e1; clear e1
    go_enter Tryz.func131, Tryz.ntmps131
    go_wp2_with fail
    refine (cmp_int64_nan _ _).mono ?_
    rintro e w' ⟨rfl, rfl⟩
    go_wp2_with fail
    refine (cmp_int64_nan _ _).mono ?_
    rintro e w' ⟨rfl, rfl⟩
    go_wp2
    go_ret
    exact ⟨ret_int E1.out.symm, rfl⟩
  · by_cases h2 : y < x
    · have e1 := cmpZ_gt h2
      have E1 := Lib.hid e1; clear e1
      go_enter Tryz.func131, Tryz.ntmps131
      go_wp2_with fail
      refine (cmp_int64_nan _ _).mono ?_
      rintro e w' ⟨rfl, rfl⟩
      go_wp2_with fail
      refine (cmp_int64_nan _ _).mono ?_
      rintro e w' ⟨rfl, rfl⟩
      go_wp2
      go_ret
      exact ⟨ret_int E1.out.symm, rfl⟩
    · obtain rfl : x = y := by omega
      have e1 : cmpZ x x = 0 := by unfold cmpZ; simp
      have E1 := Lib.hid e1; clear e1
      go_enter Tryz.func131, Tryz.ntmps131
      go_wp2_with fail
      refine (cmp_int64_nan _ _).mono ?_
      rintro e w' ⟨rfl, rfl⟩
      go_wp2_with fail
      refine (cmp_int64_nan _ _).mono ?_
      rintro e w' ⟨rfl, rfl⟩
      go_wp2
      go_ret
      exact ⟨ret_int E1.out.symm, rfl⟩

set_option maxHeartbeats 4000000 in
set_option maxRecDepth 100000 in
/-- rational.Compare. -/
theorem rat_Compare (w : World) (s : Bool) (a b : Option Addr) (k c j d n m : Nat) (h : Raw w a k c n) (g : Raw w b j d m) (s' : Bool) (a' b' : Option Addr) (k' c' j' d' n' m' : Nat) (h' : Raw w a' k' c' n') (g' : Raw w b' j' d' m') (b1 : len n < 100000000) (b2 : len m < 100000000) (b1' : len n' < 100000000) (b2' : len m' < 100000000) :
    Calls Tryz.prog 68 #[.agg #[.bool s, .slice a k c, .slice b j d], .agg #[.bool s', .slice a' k' c', .slice b' j' d']] w fun e w' => e = .returned (.int .i64 (cmpQ (mkRat (sgn s n) m) (mkRat (sgn s' n') m'))) ∧ Ext w w' := by
  by_cases hs : (mkRat (sgn s n) m).num.sign = (mkRat (sgn s' n') m').num.sign
  · have hs' : ((mkRat (sgn s n) m).num.sign != (mkRat (sgn s' n') m').num.sign) = false := by rw [hs]; simp
    have HS := Lib.hid hs; clear hs
    by_cases ha : n < 2147483648 ∧ m < 2147483648
    · by_cases hb : n' < 2147483648 ∧ m' < 2147483648
      · have HA := Lib.hid ha; have HB := Lib.hid hb; clear ha hb
        go_enter Tryz.func68, Tryz.ntmps68
        go_wp2
        obtain ⟨W, hW, x0, Z0, A0, A1⟩ := boxes2 w 55 [.bool s, .slice a k c, .slice b j d] 55 [.bool s', .slice a' k' c', .slice b' j' d']
        rw [← hW]
        clear hW
        obtain ⟨k0_0, k0_1, k0_2, f0_0, f0_1, f0_2⟩ := box3 A0 (Ext.refl _)
        have z0 := (A0.ext (Ext.refl _)).lt
        obtain ⟨k1_0, k1_1, k1_2, f1_0, f1_1, f1_2⟩ := box3 A1 (Ext.refl _)
        have z1 := (A1.ext (Ext.refl _)).lt
        have tok1 : True := trivial
        go_region_held3 (fun w' => w'.cell? ⟨w.heap.size, 0, none⟩ = some (.bool s) ∧ w'.cell? ⟨w.heap.size, 1, none⟩ = some (.slice a k c) ∧ w'.cell? ⟨w.heap.size, 2, none⟩ = some (.slice b j d) ∧ w'.cell? ⟨w.heap.size + 1, 0, none⟩ = some (.bool s') ∧ w'.cell? ⟨w.heap.size + 1, 1, none⟩ = some (.slice a' k' c') ∧ w'.cell? ⟨w.heap.size + 1, 2, none⟩ = some (.slice b' j' d')) (first | exact ⟨k0_0, k0_1, k0_2, k1_0, k1_1, k1_2⟩ | (simp [go_sem, k0_0, k0_1, k0_2, k1_0, k1_1, k1_2])) (first
          | (go_at_call 94; have _t := tok1; refine (rat_Sign _ _ _ _ _ _ _ _ _ _ ((h.ext x0).ext (by exact (Ext.refl _).drew)) ((g.ext x0).ext (by exact (Ext.refl _).drew))).mono ?_; rintro e w1 ⟨rfl, hx1⟩; clear tok1 _t; obtain ⟨k0_0, k0_1, k0_2, f0_0, f0_1, f0_2⟩ := box3 A0 ((((Ext.refl _).drew)).trans hx1); have z0 := (A0.ext ((((Ext.refl _).drew)).trans hx1)).lt; obtain ⟨k1_0, k1_1, k1_2, f1_0, f1_1, f1_2⟩ := box3 A1 ((((Ext.refl _).drew)).trans hx1); have z1 := (A1.ext ((((Ext.refl _).drew)).trans hx1)).lt)
          | (go_at_call 94; refine (rat_Sign _ _ _ _ _ _ _ _ _ _ (((h'.ext x0).ext (by exact (Ext.refl _).drew)).ext hx1) (((g'.ext x0).ext (by exact (Ext.refl _).drew)).ext hx1)).mono ?_; rintro e w2 ⟨rfl, hx2⟩; obtain ⟨k0_0, k0_1, k0_2, f0_0, f0_1, f0_2⟩ := box3 A0 (((((Ext.refl _).drew)).trans hx1).trans hx2); have z0 := (A0.ext (((((Ext.refl _).drew)).trans hx1).trans hx2)).lt; obtain ⟨k1_0, k1_1, k1_2, f1_0, f1_1, f1_2⟩ := box3 A1 (((((Ext.refl _).drew)).trans hx1).trans hx2); have z1 := (A1.ext (((((Ext.refl _).drew)).trans hx1).trans hx2)).lt))
        have y2 : Ext W w2 := ((Ext.refl W).drew.trans hx1).trans hx2
        go_wp2_with fail
        refine (rat_small _ _ _ _ _ _ _ _ _ _ ((h.ext x0).ext y2) ((g.ext x0).ext y2) HA.out.1 HA.out.2).mono ?_
        rintro e w3 ⟨x, y, rfl, i1, i2, i3, i4, hxy, hx3⟩
        have HXY := Lib.hid hxy; clear hxy
        have y3 : Ext W w3 := y2.trans hx3
        obtain ⟨k0_0, k0_1, k0_2, f0_0, f0_1, f0_2⟩ := box3 A0 y3
        have z0 := (A0.ext y3).lt
        obtain ⟨k1_0, k1_1, k1_2, f1_0, f1_1, f1_2⟩ := box3 A1 y3
        have z1 := (A1.ext y3).lt
        go_wp2_with fail
        refine (rat_small _ _ _ _ _ _ _ _ _ _ ((h'.ext x0).ext y3) ((g'.ext x0).ext y3) HB.out.1 HB.out.2).mono ?_
        rintro e w4 ⟨x', y', rfl, i1', i2', i3', i4', hxy', hx4⟩
        have HXY' := Lib.hid hxy'; clear hxy'
        have y4 : Ext W w4 := y3.trans hx4
        obtain ⟨k0_0, k0_1, k0_2, f0_0, f0_1, f0_2⟩ := box3 A0 y4
        have z0 := (A0.ext y4).lt
        obtain ⟨k1_0, k1_1, k1_2, f1_0, f1_1, f1_2⟩ := box3 A1 y4
        have z1 := (A1.ext y4).lt
        obtain ⟨m1, m2⟩ := small_mul i1 i2 (by omega : -2147483648 < (y' : Int)) (by omega)
        obtain ⟨m3, m4⟩ := small_mul i1' i2' (by omega : -2147483648 < (y : Int)) (by omega)
        go_wp2_with fail
        refine (cmp_int64 _ _ _).mono ?_
        rintro e w5 ⟨rfl, rfl⟩
        go_wp2
        go_ret
        exact ⟨ret_int (by rw [← HXY.out, ← HXY'.out, cmpQ_mkRat _ _ _ _ i3 i3']), x0.trans y4⟩
      · have HA := Lib.hid ha; have HB := Lib.hid hb; clear ha hb
        go_enter Tryz.func68, Tryz.ntmps68
        go_wp2
        obtain ⟨W, hW, x0, Z0, A0, A1⟩ := boxes2 w 55 [.bool s, .slice a k c, .slice b j d] 55 [.bool s', .slice a' k' c', .slice b' j' d']
        rw [← hW]
        clear hW
        obtain ⟨k0_0, k0_1, k0_2, f0_0, f0_1, f0_2⟩ := box3 A0 (Ext.refl _)
        have z0 := (A0.ext (Ext.refl _)).lt
        obtain ⟨k1_0, k1_1, k1_2, f1_0, f1_1, f1_2⟩ := box3 A1 (Ext.refl _)
        have z1 := (A1.ext (Ext.refl _)).lt
        have tok1 : True := trivial
        go_region_held3 (fun w' => w'.cell? ⟨w.heap.size, 0, none⟩ = some (.bool s) ∧ w'.cell? ⟨w.heap.size, 1, none⟩ = some (.slice a k c) ∧ w'.cell? ⟨w.heap.size, 2, none⟩ = some (.slice b j d) ∧ w'.cell? ⟨w.heap.size + 1, 0, none⟩ = some (.bool s') ∧ w'.cell? ⟨w.heap.size + 1, 1, none⟩ = some (.slice a' k' c') ∧ w'.cell? ⟨w.heap.size + 1, 2, none⟩ = some (.slice b' j' d')) (first | exact ⟨k0_0, k0_1, k0_2, k1_0, k1_1, k1_2⟩ | (simp [go_sem, k0_0, k0_1, k0_2, k1_0, k1_1, k1_2])) (first
          | (go_at_call 94; have _t := tok1; refine (rat_Sign _ _ _ _ _ _ _ _ _ _ ((h.ext x0).ext (by exact (Ext.refl _).drew)) ((g.ext x0).ext (by exact (Ext.refl _).drew))).mono ?_; rintro e w1 ⟨rfl, hx1⟩; clear tok1 _t; obtain ⟨k0_0, k0_1, k0_2, f0_0, f0_1, f0_2⟩ := box3 A0 ((((Ext.refl _).drew)).trans hx1); have z0 := (A0.ext ((((Ext.refl _).drew)).trans hx1)).lt; obtain ⟨k1_0, k1_1, k1_2, f1_0, f1_1, f1_2⟩ := box3 A1 ((((Ext.refl _).drew)).trans hx1); have z1 := (A1.ext ((((Ext.refl _).drew)).trans hx1)).lt)
          | (go_at_call 94; refine (rat_Sign _ _ _ _ _ _ _ _ _ _ (((h'.ext x0).ext (by exact (Ext.refl _).drew)).ext hx1) (((g'.ext x0).ext (by exact (Ext.refl _).drew)).ext hx1)).mono ?_; rintro e w2 ⟨rfl, hx2⟩; obtain ⟨k0_0, k0_1, k0_2, f0_0, f0_1, f0_2⟩ := box3 A0 (((((Ext.refl _).drew)).trans hx1).trans hx2); have z0 := (A0.ext (((((Ext.refl _).drew)).trans hx1).trans hx2)).lt; obtain ⟨k1_0, k1_1, k1_2, f1_0, f1_1, f1_2⟩ := box3 A1 (((((Ext.refl _).drew)).trans hx1).trans hx2); have z1 := (A1.ext (((((Ext.refl _).drew)).trans hx1).trans hx2)).lt))
        have y2 : Ext W w2 := ((Ext.refl W).drew.trans hx1).trans hx2
        go_wp2_with fail
        refine (rat_small _ _ _ _ _ _ _ _ _ _ ((h.ext x0).ext y2) ((g.ext x0).ext y2) HA.out.1 HA.out.2).mono ?_
        rintro e w3 ⟨x, y, rfl, i1, i2, i3, i4, hxy, hx3⟩
        have HXY := Lib.hid hxy; clear hxy
        have y3 : Ext W w3 := y2.trans hx3
        obtain ⟨k0_0, k0_1, k0_2, f0_0, f0_1, f0_2⟩ := box3 A0 y3
        have z0 := (A0.ext y3).lt
        obtain ⟨k1_0, k1_1, k1_2, f1_0, f1_1, f1_2⟩ := box3 A1 y3
        have z1 := (A1.ext y3).lt
        go_wp2_with fail
        refine (rat_small_no _ _ _ _ _ _ _ _ _ _ ((h'.ext x0).ext y3) ((g'.ext x0).ext y3) HB.out).mono ?_
        rintro e w4 ⟨rfl, hx4⟩
        have y4 : Ext W w4 := y3.trans hx4
        obtain ⟨k0_0, k0_1, k0_2, f0_0, f0_1, f0_2⟩ := box3 A0 y4
        have z0 := (A0.ext y4).lt
        obtain ⟨k1_0, k1_1, k1_2, f1_0, f1_1, f1_2⟩ := box3 A1 y4
        have z1 := (A1.ext y4).lt
        go_wp2_with fail
        refine (rat_parts _ _ _ _ _ _ _ _ _ _ ((h.ext x0).ext y4) ((g.ext x0).ext y4)).mono ?_
        rintro e w5 ⟨s1, a1, k1, c1, n1, e1, j1, d1, m1, rfl, h1, g1, hm1, hv, l1, l2, hx5⟩
        have HV := Lib.hid hv; clear hv
        have y5 : Ext W w5 := y4.trans hx5
        obtain ⟨k0_0, k0_1, k0_2, f0_0, f0_1, f0_2⟩ := box3 A0 y5
        have z0 := (A0.ext y5).lt
        obtain ⟨k1_0, k1_1, k1_2, f1_0, f1_1, f1_2⟩ := box3 A1 y5
        have z1 := (A1.ext y5).lt
        have P5 := Arr.alloc w5 53 [.bool s1, .slice a1 k1 c1]
        have y5' := y5.alloc (.cells #[.bool s1, .slice a1 k1 c1] 53)
        go_wp2_with fail
        refine (rat_parts _ _ _ _ _ _ _ _ _ _ ((h'.ext x0).ext y5') ((g'.ext x0).ext y5')).mono ?_
        rintro e w6 ⟨s2, a2, k2, c2, n2, e2, j2, d2, m2, rfl, h2, g2, hm2, hv2, l3, l4, hx6⟩
        have HV2 := Lib.hid hv2; clear hv2
        have y6 : Ext W w6 := y5'.trans hx6
        obtain ⟨p0, p1, p2, p3⟩ := box2 P5 hx6
        have pz := (P5.ext hx6).lt
        go_wp2
        obtain ⟨V, hV⟩ : ∃ V, V = w6.alloc (.cells #[.bool s2, .slice a2 k2 c2] 53) := ⟨_, rfl⟩
        rw [← hV]
        have yV : Ext w6 V := by rw [hV]; exact (Ext.refl _).alloc _
        have PV : Arr V w5.heap.size 53 [.bool s1, .slice a1 k1 c1] := (P5.ext hx6).ext yV
        have QV : Arr V w6.heap.size 53 [.bool s2, .slice a2 k2 c2] := by rw [hV]; exact Arr.alloc _ _ _
        clear hV
        have H1 := ((h1.ext ((Ext.refl w5).alloc _)).ext hx6).ext yV
        have G1 := ((g1.ext ((Ext.refl w5).alloc _)).ext hx6).ext yV
        have H2 := h2.ext yV
        have G2 := g2.ext yV
        obtain ⟨p0, p1, p2, p3⟩ := box2 PV (Ext.refl _)
        obtain ⟨q0, q1, q2, q3⟩ := box2 QV (Ext.refl _)
        have tok2 : True := trivial
        go_region_held3 (fun w' => w'.cell? ⟨w5.heap.size, 0, none⟩ = some (.bool s1) ∧ w'.cell? ⟨w5.heap.size, 1, none⟩ = some (.slice a1 k1 c1) ∧ w'.cell? ⟨w6.heap.size, 0, none⟩ = some (.bool s2) ∧ w'.cell? ⟨w6.heap.size, 1, none⟩ = some (.slice a2 k2 c2)) (first | exact ⟨p0, p1, q0, q1⟩ | (simp [go_sem, p0, p1, q0, q1])) (first
          | (go_at_call 134; have _t := tok2; refine (int_Mul _ _ _ _ _ _ _ _ _ _ _ (H1.ext (by exact (Ext.refl _).drew)) (G2.ext (by exact (Ext.refl _).drew)) (by omega) (by omega)).mono ?_; rintro e w7 ⟨a7, c7, rfl, hr7, hf7, hx7⟩; clear tok2 _t; obtain ⟨p0, p1, p2, p3⟩ := box2 PV ((Ext.refl V).drew.trans hx7); obtain ⟨q0, q1, q2, q3⟩ := box2 QV ((Ext.refl V).drew.trans hx7))
          | (go_at_call 134; refine (int_Mul _ _ _ _ _ _ _ _ _ _ _ ((H2.ext (by exact (Ext.refl _).drew)).ext hx7) ((G1.ext (by exact (Ext.refl _).drew)).ext hx7) (by omega) (by omega)).mono ?_; rintro e w8 ⟨a8, c8, rfl, hr8, hf8, hx8⟩; obtain ⟨p0, p1, p2, p3⟩ := box2 PV (((Ext.refl V).drew.trans hx7).trans hx8); obtain ⟨q0, q1, q2, q3⟩ := box2 QV (((Ext.refl V).drew.trans hx7).trans hx8))
          | (go_at_call 133; refine (int_Compare _ _ _ _ _ _ _ _ _ _ _ (hr7.ext hx8) hr8).mono ?_; rintro e w9 ⟨rfl, hx9⟩; obtain ⟨p0, p1, p2, p3⟩ := box2 PV ((((Ext.refl V).drew.trans hx7).trans hx8).trans hx9); obtain ⟨q0, q1, q2, q3⟩ := box2 QV ((((Ext.refl V).drew.trans hx7).trans hx8).trans hx9)))
        go_wp2
        go_ret
        refine ⟨ret_int ?_, (((((x0.trans y6).trans yV).drew).trans hx7).trans hx8).trans hx9⟩
        rw [sgn_num, sgn_num, ← HV.out, ← HV2.out, cmpQ_mkRat _ _ _ _ hm1 hm2]; rfl
    · by_cases hb : n' < 2147483648 ∧ m' < 2147483648
      · have HA := Lib.hid ha; have HB := Lib.hid hb; clear ha hb
        go_enter Tryz.func68, Tryz.ntmps68
        go_wp2
        obtain ⟨W, hW, x0, Z0, A0, A1⟩ := boxes2 w 55 [.bool s, .slice a k c, .slice b j d] 55 [.bool s', .slice a' k' c', .slice b' j' d']
        rw [← hW]
        clear hW
        obtain ⟨k0_0, k0_1, k0_2, f0_0, f0_1, f0_2⟩ := box3 A0 (Ext.refl _)
        have z0 := (A0.ext (Ext.refl _)).lt
        obtain ⟨k1_0, k1_1, k1_2, f1_0, f1_1, f1_2⟩ := box3 A1 (Ext.refl _)
        have z1 := (A1.ext (Ext.refl _)).lt
        have tok1 : True := trivial
        go_region_held3 (fun w' => w'.cell? ⟨w.heap.size, 0, none⟩ = some (.bool s) ∧ w'.cell? ⟨w.heap.size, 1, none⟩ = some (.slice a k c) ∧ w'.cell? ⟨w.heap.size, 2, none⟩ = some (.slice b j d) ∧ w'.cell? ⟨w.heap.size + 1, 0, none⟩ = some (.bool s') ∧ w'.cell? ⟨w.heap.size + 1, 1, none⟩ = some (.slice a' k' c') ∧ w'.cell? ⟨w.heap.size + 1, 2, none⟩ = some (.slice b' j' d')) (first | exact ⟨k0_0, k0_1, k0_2, k1_0, k1_1, k1_2⟩ | (simp [go_sem, k0_0, k0_1, k0_2, k1_0, k1_1, k1_2])) (first
          | (go_at_call 94; have _t := tok1; refine (rat_Sign _ _ _ _ _ _ _ _ _ _ ((h.ext x0).ext (by exact (Ext.refl _).drew)) ((g.ext x0).ext (by exact (Ext.refl _).drew))).mono ?_; rintro e w1 ⟨rfl, hx1⟩; clear tok1 _t; obtain ⟨k0_0, k0_1, k0_2, f0_0, f0_1, f0_2⟩ := box3 A0 ((((Ext.refl _).drew)).trans hx1); have z0 := (A0.ext ((((Ext.refl _).drew)).trans hx1)).lt; obtain ⟨k1_0, k1_1, k1_2, f1_0, f1_1, f1_2⟩ := box3 A1 ((((Ext.refl _).drew)).trans hx1); have z1 := (A1.ext ((((Ext.refl _).drew)).trans hx1)).lt)
          | (go_at_call 94; refine (rat_Sign _ _ _ _ _ _ _ _ _ _ (((h'.ext x0).ext (by exact (Ext.refl _).drew)).ext hx1) (((g'.ext x0).ext (by exact (Ext.refl _).drew)).ext hx1)).mono ?_; rintro e w2 ⟨rfl, hx2⟩; obtain ⟨k0_0, k0_1, k0_2, f0_0, f0_1, f0_2⟩ := box3 A0 (((((Ext.refl _).drew)).trans hx1).trans hx2); have z0 := (A0.ext (((((Ext.refl _).drew)).trans hx1).trans hx2)).lt; obtain ⟨k1_0, k1_1, k1_2, f1_0, f1_1, f1_2⟩ := box3 A1 (((((Ext.refl _).drew)).trans hx1).trans hx2); have z1 := (A1.ext (((((Ext.refl _).drew)).trans hx1).trans hx2)).lt))
        have y2 : Ext W w2 := ((Ext.refl W).drew.trans hx1).trans hx2
        go_wp2_with fail
        refine (rat_small_no _ _ _ _ _ _ _ _ _ _ ((h.ext x0).ext y2) ((g.ext x0).ext y2) HA.out).mono ?_
        rintro e w3 ⟨rfl, hx3⟩
        have y3 : Ext W w3 := y2.trans hx3
        obtain ⟨k0_0, k0_1, k0_2, f0_0, f0_1, f0_2⟩ := box3 A0 y3
        have z0 := (A0.ext y3).lt
        obtain ⟨k1_0, k1_1, k1_2, f1_0, f1_1, f1_2⟩ := box3 A1 y3
        have z1 := (A1.ext y3).lt
        go_wp2_with fail
        refine (rat_small _ _ _ _ _ _ _ _ _ _ ((h'.ext x0).ext y3) ((g'.ext x0).ext y3) HB.out.1 HB.out.2).mono ?_
        rintro e w4 ⟨x', y', rfl, i1', i2', i3', i4', hxy', hx4⟩
        have HXY' := Lib.hid hxy'; clear hxy'
        have y4 : Ext W w4 := y3.trans hx4
        obtain ⟨k0_0, k0_1, k0_2, f0_0, f0_1, f0_2⟩ := box3 A0 y4
        have z0 := (A0.ext y4).lt
        obtain ⟨k1_0, k1_1, k1_2, f1_0, f1_1, f1_2⟩ := box3 A1 y4
        have z1 := (A1.ext y4).lt
        go_wp2_with fail
        refine (rat_parts _ _ _ _ _ _ _ _ _ _ ((h.ext x0).ext y4) ((g.ext x0).ext y4)).mono ?_
        rintro e w5 ⟨s1, a1, k1, c1, n1, e1, j1, d1, m1, rfl, h1, g1, hm1, hv, l1, l2, hx5⟩
        have HV := Lib.hid hv; clear hv
        have y5 : Ext W w5 := y4.trans hx5
        obtain ⟨k0_0, k0_1, k0_2, f0_0, f0_1, f0_2⟩ := box3 A0 y5
        have z0 := (A0.ext y5).lt
        obtain ⟨k1_0, k1_1, k1_2, f1_0, f1_1, f1_2⟩ := box3 A1 y5
        have z1 := (A1.ext y5).lt
        have P5 := Arr.alloc w5 53 [.bool s1, .slice a1 k1 c1]
        have y5' := y5.alloc (.cells #[.bool s1, .slice a1 k1 c1] 53)
        go_wp2_with fail
        refine (rat_parts _ _ _ _ _ _ _ _ _ _ ((h'.ext x0).ext y5') ((g'.ext x0).ext y5')).mono ?_
        rintro e w6 ⟨s2, a2, k2, c2, n2, e2, j2, d2, m2, rfl, h2, g2, hm2, hv2, l3, l4, hx6⟩
        have HV2 := Lib.hid hv2; clear hv2
        have y6 : Ext W w6 := y5'.trans hx6
        obtain ⟨p0, p1, p2, p3⟩ := box2 P5 hx6
        have pz := (P5.ext hx6).lt
        go_wp2
        obtain ⟨V, hV⟩ : ∃ V, V = w6.alloc (.cells #[.bool s2, .slice a2 k2 c2] 53) := ⟨_, rfl⟩
        rw [← hV]
        have yV : Ext w6 V := by rw [hV]; exact (Ext.refl _).alloc _
        have PV : Arr V w5.heap.size 53 [.bool s1, .slice a1 k1 c1] := (P5.ext hx6).ext yV
        have QV : Arr V w6.heap.size 53 [.bool s2, .slice a2 k2 c2] := by rw [hV]; exact Arr.alloc _ _ _
        clear hV
        have H1 := ((h1.ext ((Ext.refl w5).alloc _)).ext hx6).ext yV
        have G1 := ((g1.ext ((Ext.refl w5).alloc _)).ext hx6).ext yV
        have H2 := h2.ext yV
        have G2 := g2.ext yV
        obtain ⟨p0, p1, p2, p3⟩ := box2 PV (Ext.refl _)
        obtain ⟨q0, q1, q2, q3⟩ := box2 QV (Ext.refl _)
        have tok2 : True := trivial
        go_region_held3 (fun w' => w'.cell? ⟨w5.heap.size, 0, none⟩ = some (.bool s1) ∧ w'.cell? ⟨w5.heap.size, 1, none⟩ = some (.slice a1 k1 c1) ∧ w'.cell? ⟨w6.heap.size, 0, none⟩ = some (.bool s2) ∧ w'.cell? ⟨w6.heap.size, 1, none⟩ = some (.slice a2 k2 c2)) (first | exact ⟨p0, p1, q0, q1⟩ | (simp [go_sem, p0, p1, q0, q1])) (first
          | (go_at_call 134; have _t := tok2; refine (int_Mul _ _ _ _ _ _ _ _ _ _ _ (H1.ext (by exact (Ext.refl _).drew)) (G2.ext (by exact (Ext.refl _).drew)) (by omega) (by omega)).mono ?_; rintro e w7 ⟨a7, c7, rfl, hr7, hf7, hx7⟩; clear tok2 _t; obtain ⟨p0, p1, p2, p3⟩ := box2 PV ((Ext.refl V).drew.trans hx7); obtain ⟨q0, q1, q2, q3⟩ := box2 QV ((Ext.refl V).drew.trans hx7))
          | (go_at_call 134; refine (int_Mul _ _ _ _ _ _ _ _ _ _ _ ((H2.ext (by exact (Ext.refl _).drew)).ext hx7) ((G1.ext (by exact (Ext.refl _).drew)).ext hx7) (by omega) (by omega)).mono ?_; rintro e w8 ⟨a8, c8, rfl, hr8, hf8, hx8⟩; obtain ⟨p0, p1, p2, p3⟩ := box2 PV (((Ext.refl V).drew.trans hx7).trans hx8); obtain ⟨q0, q1, q2, q3⟩ := box2 QV (((Ext.refl V).drew.trans hx7).trans hx8))
          | (go_at_call 133; refine (int_Compare _ _ _ _ _ _ _ _ _ _ _ (hr7.ext hx8) hr8).mono ?_; rintro e w9 ⟨rfl, hx9⟩; obtain ⟨p0, p1, p2, p3⟩ := box2 PV ((((Ext.refl V).drew.trans hx7).trans hx8).trans hx9); obtain ⟨q0, q1, q2, q3⟩ := box2 QV ((((Ext.refl V).drew.trans hx7).trans hx8).trans hx9)))
        go_wp2
        go_ret
        refine ⟨ret_int ?_, (((((x0.trans y6).trans yV).drew).trans hx7).trans hx8).trans hx9⟩
        rw [sgn_num, sgn_num, ← HV.out, ← HV2.out, cmpQ_mkRat _ _ _ _ hm1 hm2]; rfl
      · have HA := Lib.hid ha; have HB := Lib.hid hb; clear ha hb
        go_enter Tryz.func68, Tryz.ntmps68
        go_wp2
        obtain ⟨W, hW, x0, Z0, A0, A1⟩ := boxes2 w 55 [.bool s, .slice a k c, .slice b j d] 55 [.bool s', .slice a' k' c', .slice b' j' d']
        rw [← hW]
        clear hW
        obtain ⟨k0_0, k0_1, k0_2, f0_0, f0_1, f0_2⟩ := box3 A0 (Ext.refl _)
        have z0 := (A0.ext (Ext.refl _)).lt
        obtain ⟨k1_0, k1_1, k1_2, f1_0, f1_1, f1_2⟩ := box3 A1 (Ext.refl _)
        have z1 := (A1.ext (Ext.refl _)).lt
        have tok1 : True := trivial
        go_region_held3 (fun w' => w'.cell? ⟨w.heap.size, 0, none⟩ = some (.bool s) ∧ w'.cell? ⟨w.heap.size, 1, none⟩ = some (.slice a k c) ∧ w'.cell? ⟨w.heap.size, 2, none⟩ = some (.slice b j d) ∧ w'.cell? ⟨w.heap.size + 1, 0, none⟩ = some (.bool s') ∧ w'.cell? ⟨w.heap.size + 1, 1, none⟩ = some (.slice a' k' c') ∧ w'.cell? ⟨w.heap.size + 1, 2, none⟩ = some (.slice b' j' d')) (first | exact ⟨k0_0, k0_1, k0_2, k1_0, k1_1, k1_2⟩ | (simp [go_sem, k0_0, k0_1, k0_2, k1_0, k1_1, k1_2])) (first
          | (go_at_call 94; have _t := tok1; refine (rat_Sign _ _ _ _ _ _ _ _ _ _ ((h.ext x0).ext (by exact (Ext.refl _).drew)) ((g.ext x0).ext (by exact (Ext.refl _).drew))).mono ?_; rintro e w1 ⟨rfl, hx1⟩; clear tok1 _t; obtain ⟨k0_0, k0_1, k0_2, f0_0, f0_1, f0_2⟩ := box3 A0 ((((Ext.refl _).drew)).trans hx1); have z0 := (A0.ext ((((Ext.refl _).drew)).trans hx1)).lt; obtain ⟨k1_0, k1_1, k1_2, f1_0, f1_1, f1_2⟩ := box3 A1 ((((Ext.refl _).drew)).trans hx1); have z1 := (A1.ext ((((Ext.refl _).drew)).trans hx1)).lt)
          | (go_at_call 94; refine (rat_Sign _ _ _ _ _ _ _ _ _ _ (((h'.ext x0).ext (by exact (Ext.refl _).drew)).ext hx1) (((g'.ext x0).ext (by exact (Ext.refl _).drew)).ext hx1)).mono ?_; rintro e w2 ⟨rfl, hx2⟩; obtain ⟨k0_0, k0_1, k0_2, f0_0, f0_1, f0_2⟩ := box3 A0 (((((Ext.refl _).drew)).trans hx1).trans hx2); have z0 := (A0.ext (((((Ext.refl _).drew)).trans hx1).trans hx2)).lt; obtain ⟨k1_0, k1_1, k1_2, f1_0, f1_1, f1_2⟩ := box3 A1 (((((Ext.refl _).drew)).trans hx1).trans hx2); have z1 := (A1.ext (((((Ext.refl _).drew)).trans hx1).trans hx2)).lt))
        have y2 : Ext W w2 := ((Ext.refl W).drew.trans hx1).trans hx2
        go_wp2_with fail
        refine (rat_small_no _ _ _ _ _ _ _ _ _ _ ((h.ext x0).ext y2) ((g.ext x0).ext y2) HA.out).mono ?_
        rintro e w3 ⟨rfl, hx3⟩
        have y3 : Ext W w3 := y2.trans hx3
        obtain ⟨k0_0, k0_1, k0_2, f0_0, f0_1, f0_2⟩ := box3 A0 y3
        have z0 := (A0.ext y3).lt
        obtain ⟨k1_0, k1_1, k1_2, f1_0, f1_1, f1_2⟩ := box3 A1 y3
        have z1 := (A1.ext y3).lt
        go_wp2_with fail
        refine (rat_small_no _ _ _ _ _ _ _ _ _ _ ((h'.ext x0).ext y3) ((g'.ext x0).ext y3) HB.out).mono ?_
        rintro e w4 ⟨rfl, hx4⟩
        have y4 : Ext W w4 := y3.trans hx4
        obtain ⟨k0_0, k0_1, k0_2, f0_0, f0_1, f0_2⟩ := box3 A0 y4
        have z0 := (A0.ext y4).lt
        obtain ⟨k1_0, k1_1, k1_2, f1_0, f1_1, f1_2⟩ := box3 A1 y4
        have z1 := (A1.ext y4).lt
        go_wp2_with fail
        refine (rat_parts _ _ _ _ _ _ _ _ _ _ ((h.ext x0).ext y4) ((g.ext x0).ext y4)).mono ?_
        rintro e w5 ⟨s1, a1, k1, c1, n1, e1, j1, d1, m1, rfl, h1, g1, hm1, hv, l1, l2, hx5⟩
        have HV := Lib.hid hv; clear hv
        have y5 : Ext W w5 := y4.trans hx5
        obtain ⟨k0_0, k0_1, k0_2, f0_0, f0_1, f0_2⟩ := box3 A0 y5
        have z0 := (A0.ext y5).lt
        obtain ⟨k1_0, k1_1, k1_2, f1_0, f1_1, f1_2⟩ := box3 A1 y5
        have z1 := (A1.ext y5).lt
        have P5 := Arr.alloc w5 53 [.bool s1, .slice a1 k1 c1]
        have y5' := y5.alloc (.cells #[.bool s1, .slice a1 k1 c1] 53)
        go_wp2_with fail
        refine (rat_parts _ _ _ _ _ _ _ _ _ _ ((h'.ext x0).ext y5') ((g'.ext x0).ext y5')).mono ?_
        rintro e w6 ⟨s2, a2, k2, c2, n2, e2, j2, d2, m2, rfl, h2, g2, hm2, hv2, l3, l4, hx6⟩
        have HV2 := Lib.hid hv2; clear hv2
        have y6 : Ext W w6 := y5'.trans hx6
        obtain ⟨p0, p1, p2, p3⟩ := box2 P5 hx6
        have pz := (P5.ext hx6).lt
        go_wp2
        obtain ⟨V, hV⟩ : ∃ V, V = w6.alloc (.cells #[.bool s2, .slice a2 k2 c2] 53) := ⟨_, rfl⟩
        rw [← hV]
        have yV : Ext w6 V := by rw [hV]; exact (Ext.refl _).alloc _
        have PV : Arr V w5.heap.size 53 [.bool s1, .slice a1 k1 c1] := (P5.ext hx6).ext yV
        have QV : Arr V w6.heap.size 53 [.bool s2, .slice a2 k2 c2] := by rw [hV]; exact Arr.alloc _ _ _
        clear hV
        have H1 := ((h1.ext ((Ext.refl w5).alloc _)).ext hx6).ext yV
        have G1 := ((g1.ext ((Ext.refl w5).alloc _)).ext hx6).ext yV
        have H2 := h2.ext yV
        have G2 := g2.ext yV
        obtain ⟨p0, p1, p2, p3⟩ := box2 PV (Ext.refl _)
        obtain ⟨q0, q1, q2, q3⟩ := box2 QV (Ext.refl _)
        have tok2 : True := trivial
        go_region_held3 (fun w' => w'.cell? ⟨w5.heap.size, 0, none⟩ = some (.bool s1) ∧ w'.cell? ⟨w5.heap.size, 1, none⟩ = some (.slice a1 k1 c1) ∧ w'.cell? ⟨w6.heap.size, 0, none⟩ = some (.bool s2) ∧ w'.cell? ⟨w6.heap.size, 1, none⟩ = some (.slice a2 k2 c2)) (first | exact ⟨p0, p1, q0, q1⟩ | (simp [go_sem, p0, p1, q0, q1])) (first
          | (go_at_call 134; have _t := tok2; refine (int_Mul _ _ _ _ _ _ _ _ _ _ _ (H1.ext (by exact (Ext.refl _).drew)) (G2.ext (by exact (Ext.refl _).drew)) (by omega) (by omega)).mono ?_; rintro e w7 ⟨a7, c7, rfl, hr7, hf7, hx7⟩; clear tok2 _t; obtain ⟨p0, p1, p2, p3⟩ := box2 PV ((Ext.refl V).drew.trans hx7); obtain ⟨q0, q1, q2, q3⟩ := box2 QV ((Ext.refl V).drew.trans hx7))
          | (go_at_call 134; refine (int_Mul _ _ _ _ _ _ _ _ _ _ _ ((H2.ext (by exact (Ext.refl _).drew)).ext hx7) ((G1.ext (by exact (Ext.refl _).drew)).ext hx7) (by omega) (by omega)).mono ?_; rintro e w8 ⟨a8, c8, rfl, hr8, hf8, hx8⟩; obtain ⟨p0, p1, p2, p3⟩ := box2 PV (((Ext.refl V).drew.trans hx7).trans hx8); obtain ⟨q0, q1, q2, q3⟩ := box2 QV (((Ext.refl V).drew.trans hx7).trans hx8))
          | (go_at_call 133; refine (int_Compare _ _ _ _ _ _ _ _ _ _ _ (hr7.ext hx8) hr8).mono ?_; rintro e w9 ⟨rfl, hx9⟩; obtain ⟨p0, p1, p2, p3⟩ := box2 PV ((((Ext.refl V).drew.trans hx7).trans hx8).trans hx9); obtain ⟨q0, q1, q2, q3⟩ := box2 QV ((((Ext.refl V).drew.trans hx7).trans hx8).trans hx9)))
        go_wp2
        go_ret
        refine ⟨ret_int ?_, (((((x0.trans y6).trans yV).drew).trans hx7).trans hx8).trans hx9⟩
        rw [sgn_num, sgn_num, ← HV.out, ← HV2.out, cmpQ_mkRat _ _ _ _ hm1 hm2]; rfl
  · have hs' : ((mkRat (sgn s n) m).num.sign != (mkRat (sgn s' n') m').num.sign) = true := by rw [bne_iff_ne]; exact hs
    have e1 := cmpQ_sign hs
    have E1 := Lib.hid e1; clear e1 hs
    go_enter Tryz.func68, Tryz.ntmps68
    go_wp2
    obtain ⟨W, hW, x0, Z0, A0, A1⟩ := boxes2 w 55 [.bool s, .slice a k c, .slice b j d] 55 [.bool s', .slice a' k' c', .slice b' j' d']
    rw [← hW]
    clear hW
    obtain ⟨k0_0, k0_1, k0_2, f0_0, f0_1, f0_2⟩ := box3 A0 (Ext.refl _)
    have z0 := (A0.ext (Ext.refl _)).lt
    obtain ⟨k1_0, k1_1, k1_2, f1_0, f1_1, f1_2⟩ := box3 A1 (Ext.refl _)
    have z1 := (A1.ext (Ext.refl _)).lt
    have tok1 : True := trivial
    go_region_held3 (fun w' => w'.cell? ⟨w.heap.size, 0, none⟩ = some (.bool s) ∧ w'.cell? ⟨w.heap.size, 1, none⟩ = some (.slice a k c) ∧ w'.cell? ⟨w.heap.size, 2, none⟩ = some (.slice b j d) ∧ w'.cell? ⟨w.heap.size + 1, 0, none⟩ = some (.bool s') ∧ w'.cell? ⟨w.heap.size + 1, 1, none⟩ = some (.slice a' k' c') ∧ w'.cell? ⟨w.heap.size + 1, 2, none⟩ = some (.slice b' j' d')) (first | exact ⟨k0_0, k0_1, k0_2, k1_0, k1_1, k1_2⟩ | (simp [go_sem, k0_0, k0_1, k0_2, k1_0, k1_1, k1_2])) (first
      | (go_at_call 94; have _t := tok1; refine (rat_Sign _ _ _ _ _ _ _ _ _ _ ((h.ext x0).ext (by exact (Ext.refl _).drew)) ((g.ext x0).ext (by exact (Ext.refl _).drew))).mono ?_; rintro e w1 ⟨rfl, hx1⟩; clear tok1 _t; obtain ⟨k0_0, k0_1, k0_2, f0_0, f0_1, f0_2⟩ := box3 A0 ((((Ext.refl _).drew)).trans hx1); have z0 := (A0.ext ((((Ext.refl _).drew)).trans hx1)).lt; obtain ⟨k1_0, k1_1, k1_2, f1_0, f1_1, f1_2⟩ := box3 A1 ((((Ext.refl _).drew)).trans hx1); have z1 := (A1.ext ((((Ext.refl _).drew)).trans hx1)).lt)
      | (go_at_call 94; refine (rat_Sign _ _ _ _ _ _ _ _ _ _ (((h'.ext x0).ext (by exact (Ext.refl _).drew)).ext hx1) (((g'.ext x0).ext (by exact (Ext.refl _).drew)).ext hx1)).mono ?_; rintro e w2 ⟨rfl, hx2⟩; obtain ⟨k0_0, k0_1, k0_2, f0_0, f0_1, f0_2⟩ := box3 A0 (((((Ext.refl _).drew)).trans hx1).trans hx2); have z0 := (A0.ext (((((Ext.refl _).drew)).trans hx1).trans hx2)).lt; obtain ⟨k1_0, k1_1, k1_2, f1_0, f1_1, f1_2⟩ := box3 A1 (((((Ext.refl _).drew)).trans hx1).trans hx2); have z1 := (A1.ext (((((Ext.refl _).drew)).trans hx1).trans hx2)).lt))
    have y2 : Ext W w2 := ((Ext.refl W).drew.trans hx1).trans hx2
    go_wp2_with fail
    refine (cmp_int _ _ _).mono ?_
    rintro e w3 ⟨rfl, rfl⟩
    go_wp2
    go_ret
    exact ⟨ret_int E1.out, x0.trans y2⟩

end Go.Proofs.YtgihpfkjpfanmaaGreat
