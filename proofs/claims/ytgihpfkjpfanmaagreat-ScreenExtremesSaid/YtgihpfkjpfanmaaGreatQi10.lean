/- Texts of the proof: Ref7, Ref8, Ref9. -/
import Derived.Deep.LoopGhost
import Derived.Deep.DeepCutAuto
import Derived.Test.YtgihpfkjpfanmaaGreatChecked
import Derived.Lib.Strings
import Derived.Lib.Slices
import Derived.Lib.Small
import Derived.Lib.Walk
import Derived.Lib.BitFns
import Derived.Deep.CutBlock
import Derived.IntWalk
import Derived.Test.YtgihpfkjpfanmaaGreatRows
import Derived.KernelRfl
import Derived.WalkKit
import Derived.WalkSpells
import Derived.Sort.Grow
import Derived.Lib.Hide
import Derived.Laws.CopyOwn
import Derived.Laws.BitsAllLaws
import Derived.Deep.QuietTactic
import Derived.BigQuiet
import Derived.WalkLawsBesides
import Derived.Deep.RegionWith
import Derived.Deep.RegionHeld3
import Derived.Laws.AppendOwnNone
import Derived.Test.YtgihpfkjpfanmaaGreatQi1
import Derived.Test.YtgihpfkjpfanmaaGreatQi2
import Derived.Test.YtgihpfkjpfanmaaGreatQi3
import Derived.Test.YtgihpfkjpfanmaaGreatQi4
import Derived.Test.YtgihpfkjpfanmaaGreatQi5
import Derived.Test.YtgihpfkjpfanmaaGreatQi6
import Derived.Test.YtgihpfkjpfanmaaGreatQi7
import Derived.Test.YtgihpfkjpfanmaaGreatQi8
import Derived.Test.YtgihpfkjpfanmaaGreatQi9
namespace Go.Proofs.YtgihpfkjpfanmaaGreat
open Go.RowKit

set_option maxHeartbeats 1000000 in
set_option maxRecDepth 100000 in
/-- ref01.DivMod of two numbers below 2^64. -/
theorem r1_DivMod_small (w : World) (a b : Option Addr) (k k' c c' n m : Nat) (ha : Raw w a k c n) (hb : Raw w b k' c' m) (hm : 0 < m) (hn64 : n < 18446744073709551616) (hm64 : m < 18446744073709551616) :
    Calls Tryz.prog 151 #[.slice a k c, .slice b k' c'] w (NewNatsOk (n / m) (n % m) w) := by
  have pm := len_pos.2 hm
  have hm' : (((len m : Nat) : Int) == 0) = false := by rw [beq_eq_false_iff_ne]; omega
  go_enter Tryz.func151, Tryz.ntmps151
  go_wp2_with fail
  refine (r1_Trim _ _ _ _ _ hb).mono ?_
  rintro e w1 ⟨a1, c1, rfl, r1, f1, x1⟩
  go_wp2_with fail
  refine (r1_Uint64_yes _ _ _ _ _ (ha.ext x1) hn64).mono ?_
  rintro e w2 ⟨rfl, x2⟩
  go_wp2_with fail
  refine (r1_Uint64_yes _ _ _ _ _ (r1.ext x2) hm64).mono ?_
  rintro e w3 ⟨rfl, x3⟩
  have hx := (x1.trans x2).trans x3
  have hq : n / m ≤ n := Nat.div_le_self _ _
  have hr : n % m < m := Nat.mod_lt _ hm
  have hmi : ((m : Nat) : Int) ≠ 0 := by omega
  have hmb : (((m : Nat) : Int) == 0) = false := by rw [beq_eq_false_iff_ne]; omega
  have h1m : (1 : Int) ≤ (m : Int) := by omega
  have hqb : n / m < 18446744073709551616 := Nat.lt_of_le_of_lt hq hn64
  have hrb : n % m < 18446744073709551616 := Nat.lt_trans hr hm64
  have e1 : IntKind.u64.wrap ((n : Int) / (m : Int)) = ((n / m : Nat) : Int) := by
    rw [IntKind.wrap_u64, ← Int.natCast_ediv]
    generalize n / m = z at *
    omega
  have e2 : (n : Int).tmod (m : Int) = ((n % m : Nat) : Int) := by
    rw [Int.tmod_eq_emod_of_nonneg (by omega), Int.natCast_emod]
  generalize hqq : n / m = qq at *
  generalize hrr : n % m = rr at *
  have HQ := Lib.hid hqq; have HR := Lib.hid hrr; clear hqq hrr
  have tok1 : True := trivial
  go_wp2_with fail
  go_region_with (first
    | (go_at_call 144; have _t := tok1; refine (r1_FromUint64 _ _ (by assumption)).mono ?_; rintro e w4 ⟨a4, c4, rfl, hr4, hf4, hx4⟩; clear tok1 _t)
    | (go_at_call 144; refine (r1_FromUint64 _ _ (by assumption)).mono ?_; rintro e w5 ⟨a5, c5, rfl, hr5, hf5, hx5⟩))
  all_goals go_wp2
  all_goals go_ret3
  all_goals exact ⟨a4, c4, a5, c5, rfl, hr4.ext hx5, hf4.mono hx.size, hr5, hf5.mono (Nat.le_trans hx.size hx4.size), (hx.drew.trans hx4).trans hx5⟩

theorem u32_or_pow (x i : Nat) (hx : x < 4294967296) (hi : i < 32) : bits BinOp.or IntKind.u32 (x : Int) (2 ^ i % 4294967296) = ((x ||| 2 ^ i : Nat) : Int) := by
  have hp : 2 ^ i < 4294967296 := Nat.pow_lt_pow_right (a := 2) (by decide) hi
  have h := u32_or_nat x (2 ^ i) hx hp
  have e : ((2 : Int) ^ i % 4294967296) = ((2 ^ i : Nat) : Int) := by
    rw [show ((2 : Int) ^ i) = ((2 ^ i : Nat) : Int) from by rw [Int.natCast_pow]; rfl]
    generalize 2 ^ i = z at *
    omega
  rw [e]
  exact h

theorem dbl (q p : Nat) : q * (p * 2) = 2 * q * p := by rw [Nat.mul_comm p 2, ← Nat.mul_assoc, Nat.mul_comm q 2]
theorem dbl_len {z m : Nat} (h : z < m) : len (z + z) ≤ len m + 1 := by
  rw [len_le, Nat.pow_succ]
  have h8 := lt_pow_len m
  generalize 4294967296 ^ len m = P at h8 ⊢
  omega
theorem raw_one' (w : World) : Raw (w.alloc (Obj.cells #[.int .u32 1] 122)) (some ⟨w.heap.size, 0, none⟩) 1 1 1 := by
  have ha := Arr.alloc w 122 (u32s [1])
  exact ⟨[1], rfl, rfl, ha.limbs (Small.one (by decide)) (by simp)⟩

/-- The two numbers at the head of the loop: j binary digits are still to come. -/
def LongAt (n m k qb : Nat) (wq w2 : World) (s5 s11 : Value) (wr : World) : Prop :=
  ∃ (j : Nat) (a5 : Option Addr) (c5 : Nat) (Q : List Nat), j ≤ nbits n ∧ Raw wr a5 (len (n / 2 ^ j % m)) c5 (n / 2 ^ j % m) ∧ Fr wq.heap.size a5 ∧ Q.length = k ∧ Small Q ∧ val Q = n / 2 ^ j / m * 2 ^ j ∧ Arr wr qb 122 (u32s Q) ∧ Ext w2 wr ∧ wq.heap.size ≤ wr.heap.size ∧ s5 = .slice a5 (len (n / 2 ^ j % m)) c5 ∧ s11 = .int .i64 ((j : Int) - 1)

set_option maxHeartbeats 4000000 in
set_option maxRecDepth 100000 in
/-- ref01.DivMod by binary digits. -/
theorem r1_DivMod_large (w : World) (a b : Option Addr) (k k' c c' n m : Nat) (ha : Raw w a k c n) (hb : Raw w b k' c' m) (hm : 0 < m) (hk : k < 900000000) (hk' : k' < 900000000) (hbig : ¬ (n < 18446744073709551616 ∧ m < 18446744073709551616)) :
    Calls Tryz.prog 151 #[.slice a k c, .slice b k' c'] w (NewNatsOk (n / m) (n % m) w) := by
  have pm := len_pos.2 hm
  have hlm := hb.len_le
  have hln := ha.len_le
  have hm' : (((len m : Nat) : Int) == 0) = false := by rw [beq_eq_false_iff_ne]; omega
  have hnb : nbits n ≤ 32 * len n := nbits_le_of_lt (by rw [← pow_eq]; exact lt_pow_len n)
  go_enter Tryz.func151, Tryz.ntmps151
  go_wp2_with fail
  refine (r1_Trim _ _ _ _ _ hb).mono ?_
  rintro e w1 ⟨a1, c1, rfl, r1, f1, x1⟩
  go_upto_region 4 with fail
  go_cut [7, 8] (fun s7 s8 wx => ∃ (x : Nat) (sm : Bool), s7 = .int .u64 x ∧ s8 = .bool sm ∧ Hid (sm = true → n < 18446744073709551616) ∧ Ext w1 wx)
  case first =>
    by_cases hn : n < 18446744073709551616
    · go_wp2_with fail
      refine (r1_Uint64_yes _ _ _ _ _ (ha.ext x1) hn).mono ?_
      rintro e w2 ⟨rfl, x2⟩
      go_wp2_with fail
      go_meet
      exact ⟨n, true, rfl, rfl, (show _ → _ from fun _ => hn), x2⟩
    · go_wp2_with fail
      refine (r1_Uint64_no _ _ _ _ _ (ha.ext x1) (by omega)).mono ?_
      rintro e w2 ⟨rfl, x2⟩
      go_wp2_with fail
      go_meet
      exact ⟨0, false, rfl, rfl, (show _ → _ from fun h => by cases h), x2⟩
  case rest =>
    obtain ⟨x, sm, rfl, rfl, hsm, x2⟩ := hcut
    go_upto_region 5 with fail
    go_cut [9, 10] (fun s9 s10 wx => ∃ (x : Nat) (sm : Bool), s9 = .int .u64 x ∧ s10 = .bool sm ∧ Hid (sm = true → m < 18446744073709551616) ∧ Ext w1 wx)
    case first =>
      by_cases hmm : m < 18446744073709551616
      · go_wp2_with fail
        refine (r1_Uint64_yes _ _ _ _ _ (r1.ext x2) hmm).mono ?_
        rintro e w2 ⟨rfl, x3⟩
        go_wp2_with fail
        go_meet
        exact ⟨m, true, rfl, rfl, (show _ → _ from fun _ => hmm), x2.trans x3⟩
      · go_wp2_with fail
        refine (r1_Uint64_no _ _ _ _ _ (r1.ext x2) (by omega)).mono ?_
        rintro e w2 ⟨rfl, x3⟩
        go_wp2_with fail
        go_meet
        exact ⟨0, false, rfl, rfl, (show _ → _ from fun h => by cases h), x2.trans x3⟩
    case rest =>
      obtain ⟨x', ft, rfl, rfl, hft, x3⟩ := hcut
      go_upto_region 6 with fail
      go_cut [32] (fun s32 wx => s32 = .bool false ∧ Ext w1 wx)
      case first =>
        cases sm with
        | true =>
          cases ft with
          | true => exact absurd ⟨hsm.out rfl, hft.out rfl⟩ hbig
          | false =>
            go_wp2_with fail
            go_meet
            exact ⟨rfl, x3⟩
        | false =>
          go_wp2_with fail
          go_meet
          exact ⟨rfl, x3⟩
      case rest =>
        obtain ⟨rfl, x4⟩ := hcut
        clear x2 x3 hsm hft
        obtain ⟨w4, rfl⟩ : ∃ w4 : World, w4 = wc := ⟨_, rfl⟩
        have hA4 := ha.ext (x1.trans x4)
        go_wp2_with (at_make; refine wpList_make_one _ rfl _ _ 51 rfl 122 (.int .u32 0) 4 Tryz.underlying51 Tryz.info_u32 rfl _ _ k rfl rfl (by go_num) (by go_num) (by omega) (by omega) ?_; intro w5 hw5 hx5 hz5)
        refine (r1_Bits _ _ _ _ _ (hA4.ext hx5)).mono ?_
        rintro e w6 ⟨rfl, x6⟩
        go_wp2_with fail
        have hqv0 : val (List.replicate k 0) = n / 2 ^ nbits n / m * 2 ^ nbits n := by
          rw [val_replicate, Nat.div_eq_of_lt (lt_two_pow_nbits n), Nat.zero_div, Nat.zero_mul]
        have hr00 : n / 2 ^ nbits n % m = 0 := by rw [Nat.div_eq_of_lt (lt_two_pow_nbits n), Nat.zero_mod]
        have HS : Hid (LongAt n m k w4.heap.size w5 w4 (.slice none 0 0) (.int .i64 ((nbits n : Int) - 1)) w6) :=
          ⟨nbits n, none, 0, List.replicate k 0, Nat.le_refl _, by rw [hr00]; exact Raw.nil _, Fr.none _, by simp, Small.replicate _, hqv0, Arr.ext (by have := hw5.out; rwa [u32s_replicate] at this) x6, hx5.trans x6, x6.size, by rw [hr00]; rfl, rfl⟩
        have rB := r1.ext x4
        have hz5' := hz5.out
        have HZ5 := Lib.hid hz5'
        clear hqv0 hr00 hw5 hz5 hz5' x6
        go_loopw [5, 11] (fun s5 s11 wr => LongAt n m k w4.heap.size w5 w4 s5 s11 wr) (fun _ s11 _ => (intOf s11 + 1).toNat)
        case atStart => exact HS.out
        case round =>
          obtain ⟨j, a5, c5, Q, hj, rR, fR, hQL, hsQ, hQV, hAr', hx2w, hxq, rfl, rfl⟩ := hrel
          have HQL := Lib.hid hQL; have HQV := Lib.hid hQV; have hAr := Lib.hid hAr'
          clear hQL hQV hAr'
          by_cases h0 : 0 < j
          · obtain ⟨i, rfl⟩ : ∃ i, j = i + 1 := ⟨j - 1, by omega⟩
            rw [show (((i + 1 : Nat) : Int) - 1) = (i : Int) from by omega]
            have hik : i / 32 < k := by omega
            have HSB := Lib.hid (set_bit hsQ HQV.out (by rw [HQL.out]; exact hik))
            have HOR := Lib.hid (u32_or_pow (limb Q (i / 32)) (i % 32) (limb_lt hsQ _) (Nat.mod_lt _ (by decide)))
            have hlx := limb_lt hsQ (i / 32)
            have hhb := half_bits n i
            have hRm := Nat.mod_lt (n / 2 ^ (i + 1)) hm
            have hlR := len_mono (Nat.le_of_lt hRm)
            have hl2 : len (n / 2 ^ (i + 1) % m + n / 2 ^ (i + 1) % m) ≤ len m + 1 := by
              exact dbl_len hRm
            have g0 : (0 : Int) ≤ (i : Int) := by omega
            rcases Nat.mod_two_eq_zero_or_one (n / 2 ^ i) with hb0 | hb1
            · have HBT := Lib.hid hb0
              obtain ⟨hd1, hd2⟩ := bit_div (n / 2 ^ (i + 1)) m 0 hm (by decide)
              rw [hb0, Nat.add_zero] at hhb
              simp only [Nat.add_zero] at hd1 hd2
              rw [← hhb] at hd1 hd2
              clear hb0
              by_cases hsub : m ≤ 2 * (n / 2 ^ (i + 1) % m)
              · have HDV := Lib.hid (hd1 hsub)
                have HHB := Lib.hid hhb
                clear hd1 hd2 hhb
                generalize n / 2 ^ (i + 1) % m = R at *
                go_wp2_with fail
                refine (r1_Add _ _ _ _ _ _ _ _ _ rR rR (by omega) (by omega)).mono ?_
                rintro e u1 ⟨a6, c6, rfl, r6, f6, x6⟩
                have hbit := r1_bit u1 _ _ _ _ i ((hA4.ext hx2w).ext x6) (by omega)
                rw [HBT.out] at hbit
                go_wp2_with fail
                refine hbit.mono ?_
                rintro e u2 ⟨rfl, rfl⟩
                clear hbit
                obtain ⟨u3, a8, c8, r8, xx, fr8, rfl, rfl, rfl⟩ : ∃ u3 a8 c8, Raw u3 a8 (len (R + R)) c8 (R + R) ∧ Ext wr u3 ∧ Fr wr.heap.size a8 ∧ u3 = u2 ∧ a8 = a6 ∧ c8 = c6 := ⟨u2, a6, c6, r6, x6, f6, rfl, rfl, rfl⟩
                go_wp2_with fail
                refine (r1_Sub _ _ _ _ _ _ _ _ _ r8 ((rB.ext hx2w).ext xx) (by omega)).mono ?_
                rintro e u4 ⟨a9, c9, rfl, r9, f9, x9⟩
                have xw := xx.trans x9
                have arQ := Arr.ext hAr.out xw
                have hst := arr_at (i := i / 32) arQ (by rw [HQL.out]; omega)
                have hfz := arQ.frozen (i / 32)
                have HAQ := Lib.hid (fun v hv => arr_set (i := i / 32) arQ (limb Q (i / 32) ||| 2 ^ (i % 32)) v hv)
                have f9' := f9.mono xx.size
                go_wp2_with fail
                rw [HOR.out]
                go_roundw
                case rel =>
                  have hdv := HDV.out
                  have hR9 : (R + R) - m = n / 2 ^ i % m := by rw [hdv.2]; omega
                  rw [hR9] at r9 ⊢
                  have hz9 := xw.size
                  refine ⟨i, a9, c9, Q.set (i / 32) (limb Q (i / 32) ||| 2 ^ (i % 32)), by omega, ?_, f9'.mono hxq, by simp [HQL.out], hsQ.set _ _ HSB.out.1, ?_, HAQ.out _ rfl, (hx2w.trans xw).setCell (Nat.le_refl _) _, ?_, rfl, rfl⟩
                  · exact r9.setCell _ _ (fun x e => by have h5 := f9' x e; have h6 := hAr.out.lt; simp only; omega)
                  · rw [HSB.out.2, hdv.1]
                    generalize n / 2 ^ (i + 1) / m = q
                    rw [Nat.add_mul, Nat.pow_succ, Nat.one_mul, dbl]
                  · simp [World.setCell]; omega
                case measure => simp [intOf] <;> omega
              · have HDV := Lib.hid (hd2 hsub)
                have HHB := Lib.hid hhb
                clear hd1 hd2 hhb
                generalize n / 2 ^ (i + 1) % m = R at *
                go_wp2_with fail
                refine (r1_Add _ _ _ _ _ _ _ _ _ rR rR (by omega) (by omega)).mono ?_
                rintro e u1 ⟨a6, c6, rfl, r6, f6, x6⟩
                have hbit := r1_bit u1 _ _ _ _ i ((hA4.ext hx2w).ext x6) (by omega)
                rw [HBT.out] at hbit
                go_wp2_with fail
                refine hbit.mono ?_
                rintro e u2 ⟨rfl, rfl⟩
                clear hbit
                obtain ⟨u3, a8, c8, r8, xx, fr8, rfl, rfl, rfl⟩ : ∃ u3 a8 c8, Raw u3 a8 (len (R + R)) c8 (R + R) ∧ Ext wr u3 ∧ Fr wr.heap.size a8 ∧ u3 = u2 ∧ a8 = a6 ∧ c8 = c6 := ⟨u2, a6, c6, r6, x6, f6, rfl, rfl, rfl⟩
                go_wp2_with fail
                refine (r1_Sub_no _ _ _ _ _ _ _ _ _ r8 ((rB.ext hx2w).ext xx) (by omega)).mono ?_
                rintro e u4 ⟨rfl, x9⟩
                have xw := xx.trans x9
                go_wp2_with fail
                go_roundw
                case rel =>
                  have hdv := HDV.out
                  have hR9 : (R + R) = n / 2 ^ i % m := by rw [hdv.2]; omega
                  rw [hR9] at r8 ⊢
                  refine ⟨i, a8, c8, Q, by omega, r8.ext x9, fr8.mono hxq, HQL.out, hsQ, ?_, Arr.ext hAr.out xw, hx2w.trans xw, by have := xw.size; omega, rfl, rfl⟩
                  rw [HQV.out, hdv.1]
                  generalize n / 2 ^ (i + 1) / m = q
                  rw [Nat.pow_succ, dbl]
                case measure => simp [intOf] <;> omega
            · have HBT := Lib.hid hb1
              obtain ⟨hd1, hd2⟩ := bit_div (n / 2 ^ (i + 1)) m 1 hm (by decide)
              rw [hb1] at hhb
              rw [← hhb] at hd1 hd2
              clear hb1
              by_cases hsub : m ≤ 2 * (n / 2 ^ (i + 1) % m) + 1
              · have HDV := Lib.hid (hd1 hsub)
                have HHB := Lib.hid hhb
                clear hd1 hd2 hhb
                generalize n / 2 ^ (i + 1) % m = R at *
                go_wp2_with fail
                refine (r1_Add _ _ _ _ _ _ _ _ _ rR rR (by omega) (by omega)).mono ?_
                rintro e u1 ⟨a6, c6, rfl, r6, f6, x6⟩
                have hbit := r1_bit u1 _ _ _ _ i ((hA4.ext hx2w).ext x6) (by omega)
                rw [HBT.out] at hbit
                go_wp2_with fail
                refine hbit.mono ?_
                rintro e u2 ⟨rfl, rfl⟩
                clear hbit
                go_wp2_with fail
                have r1 := raw_one' u2
                have x7 : Ext u2 (u2.alloc (Obj.cells #[.int .u32 1] 122)) := (Ext.refl _).alloc _
                refine (r1_Add _ _ _ _ _ _ _ _ _ (r6.ext x7) r1 (by omega) (by omega)).mono ?_
                rintro e u3 ⟨a8, c8, rfl, r8, f8, x8⟩
                have xx := (x6.trans x7).trans x8
                have fr8 := f8.mono (Nat.le_trans x6.size x7.size)
                go_wp2_with fail
                refine (r1_Sub _ _ _ _ _ _ _ _ _ r8 ((rB.ext hx2w).ext xx) (by omega)).mono ?_
                rintro e u4 ⟨a9, c9, rfl, r9, f9, x9⟩
                have xw := xx.trans x9
                have arQ := Arr.ext hAr.out xw
                have hst := arr_at (i := i / 32) arQ (by rw [HQL.out]; omega)
                have hfz := arQ.frozen (i / 32)
                have HAQ := Lib.hid (fun v hv => arr_set (i := i / 32) arQ (limb Q (i / 32) ||| 2 ^ (i % 32)) v hv)
                have f9' := f9.mono xx.size
                go_wp2_with fail
                rw [HOR.out]
                go_roundw
                case rel =>
                  have hdv := HDV.out
                  have hR9 : (R + R + 1) - m = n / 2 ^ i % m := by rw [hdv.2]; omega
                  rw [hR9] at r9 ⊢
                  have hz9 := xw.size
                  refine ⟨i, a9, c9, Q.set (i / 32) (limb Q (i / 32) ||| 2 ^ (i % 32)), by omega, ?_, f9'.mono hxq, by simp [HQL.out], hsQ.set _ _ HSB.out.1, ?_, HAQ.out _ rfl, (hx2w.trans xw).setCell (Nat.le_refl _) _, ?_, rfl, rfl⟩
                  · exact r9.setCell _ _ (fun x e => by have h5 := f9' x e; have h6 := hAr.out.lt; simp only; omega)
                  · rw [HSB.out.2, hdv.1]
                    generalize n / 2 ^ (i + 1) / m = q
                    rw [Nat.add_mul, Nat.pow_succ, Nat.one_mul, dbl]
                  · simp [World.setCell]; omega
                case measure => simp [intOf] <;> omega
              · have HDV := Lib.hid (hd2 hsub)
                have HHB := Lib.hid hhb
                clear hd1 hd2 hhb
                generalize n / 2 ^ (i + 1) % m = R at *
                go_wp2_with fail
                refine (r1_Add _ _ _ _ _ _ _ _ _ rR rR (by omega) (by omega)).mono ?_
                rintro e u1 ⟨a6, c6, rfl, r6, f6, x6⟩
                have hbit := r1_bit u1 _ _ _ _ i ((hA4.ext hx2w).ext x6) (by omega)
                rw [HBT.out] at hbit
                go_wp2_with fail
                refine hbit.mono ?_
                rintro e u2 ⟨rfl, rfl⟩
                clear hbit
                go_wp2_with fail
                have r1 := raw_one' u2
                have x7 : Ext u2 (u2.alloc (Obj.cells #[.int .u32 1] 122)) := (Ext.refl _).alloc _
                refine (r1_Add _ _ _ _ _ _ _ _ _ (r6.ext x7) r1 (by omega) (by omega)).mono ?_
                rintro e u3 ⟨a8, c8, rfl, r8, f8, x8⟩
                have xx := (x6.trans x7).trans x8
                have fr8 := f8.mono (Nat.le_trans x6.size x7.size)
                go_wp2_with fail
                refine (r1_Sub_no _ _ _ _ _ _ _ _ _ r8 ((rB.ext hx2w).ext xx) (by omega)).mono ?_
                rintro e u4 ⟨rfl, x9⟩
                have xw := xx.trans x9
                go_wp2_with fail
                go_roundw
                case rel =>
                  have hdv := HDV.out
                  have hR9 : (R + R + 1) = n / 2 ^ i % m := by rw [hdv.2]; omega
                  rw [hR9] at r8 ⊢
                  refine ⟨i, a8, c8, Q, by omega, r8.ext x9, fr8.mono hxq, HQL.out, hsQ, ?_, Arr.ext hAr.out xw, hx2w.trans xw, by have := xw.size; omega, rfl, rfl⟩
                  rw [HQV.out, hdv.1]
                  generalize n / 2 ^ (i + 1) / m = q
                  rw [Nat.pow_succ, dbl]
                case measure => simp [intOf] <;> omega
          · obtain rfl : j = 0 := by omega
            have hqv := HQV.out
            rw [Nat.pow_zero, Nat.div_one, Nat.mul_one] at hqv
            rw [Nat.pow_zero, Nat.div_one] at rR ⊢
            have rawQ : Raw wr (some ⟨w4.heap.size, 0, none⟩) k k (n / m) := by
              have h3 := hAr.out.limbs hsQ (by rw [HQL.out]; omega)
              rw [HQL.out] at h3
              exact ⟨Q, HQL.out, hqv, h3⟩
            have RQ := Lib.hid rawQ
            clear rawQ hqv
            go_wp2_with fail
            refine (r1_Trim _ _ _ _ _ RQ.out).mono ?_
            rintro e u1 ⟨a6, c6, rfl, r6, f6, x6⟩
            go_wp2_with fail
            refine (r1_Trim _ _ _ _ _ (rR.ext x6)).mono ?_
            rintro e u2 ⟨a7, c7, rfl, r7, f7, x7⟩
            go_wp2_with fail
            go_ret3
            have hxx := (x1.trans x4).trans hx2w
            exact ⟨a6, c6, a7, c7, rfl, r6.ext x7, f6.mono hxx.size, r7, f7.mono (Nat.le_trans hxx.size x6.size), (hxx.trans x6).trans x7⟩

/-- ref01.DivMod. -/
theorem r1_DivMod (w : World) (a b : Option Addr) (k k' c c' n m : Nat) (ha : Raw w a k c n) (hb : Raw w b k' c' m) (hm : 0 < m) (hk : k < 900000000) (hk' : k' < 900000000) :
    Calls Tryz.prog 151 #[.slice a k c, .slice b k' c'] w (NewNatsOk (n / m) (n % m) w) := by
  by_cases h : n < 18446744073709551616 ∧ m < 18446744073709551616
  · exact r1_DivMod_small w a b k k' c c' n m ha hb hm h.1 h.2
  · exact r1_DivMod_large w a b k k' c c' n m ha hb hm hk hk' h

/-- The two numbers at the head of the loop. -/
def Gcd1At (g n m L : Nat) (w : World) (s0 s1 : Value) (wr : World) : Prop :=
  ∃ (A B : Nat) (a b : Option Addr) (c c' : Nat), B ≤ g ∧ Nat.gcd A B = Nat.gcd n m ∧ len A ≤ L ∧ len B ≤ L ∧ Raw wr a (len A) c A ∧ Raw wr b (len B) c' B ∧ Fr w.heap.size a ∧ Fr w.heap.size b ∧ Ext w wr ∧ s0 = .slice a (len A) c ∧ s1 = .slice b (len B) c'

set_option maxHeartbeats 1000000 in
/-- ref01.GCD. -/
theorem r1_GCD (w : World) (a b : Option Addr) (k k' c c' n m : Nat) (ha : Raw w a k c n) (hb : Raw w b k' c' m) (hk : len n < 900000000) (hk' : len m < 900000000) :
    Calls Tryz.prog 209 #[.slice a k c, .slice b k' c'] w (NewNat (Nat.gcd n m) w) := by
  go_enter Tryz.func209, Tryz.ntmps209
  go_wp2_with fail
  refine (r1_Trim _ _ _ _ _ ha).mono ?_
  rintro e w1 ⟨a1, c1, rfl, r1, f1, x1⟩
  go_wp2_with fail
  refine (r1_Trim _ _ _ _ _ (hb.ext x1)).mono ?_
  rintro e w2 ⟨a2, c2, rfl, r2, f2, x2⟩
  have HS : Hid (Gcd1At m n m 899999999 w (.slice a1 (len n) c1) (.slice a2 (len m) c2) w2) := ⟨n, m, a1, a2, c1, c2, Nat.le_refl _, rfl, by omega, by omega, r1.ext x2, r2, f1, f2.mono x1.size, x1.trans x2, rfl, rfl⟩
  clear r1 r2 f1 f2 x1 x2
  go_wp2_with fail
  go_loopg [0, 1] m (fun g s0 s1 wr => Gcd1At g n m 899999999 w s0 s1 wr)
  case atStart => exact HS.out
  case round =>
    obtain ⟨A, B, a, b, c, c', hg, hgcd, hlA, hlB, rA, rB, fA, fB, hx, rfl, rfl⟩ := hrel
    have HGC := Lib.hid hgcd
    clear hgcd
    by_cases hB : B = 0
    · subst hB
      rw [len_zero]
      go_wp2_with fail
      go_ret
      have hg0 := HGC.out
      rw [Nat.gcd_zero_right] at hg0
      rw [← hg0]
      exact ⟨_, _, rfl, rA, fA, hx⟩
    · have pB := len_pos.2 (Nat.pos_of_ne_zero hB)
      go_wp2_with fail
      refine (r1_DivMod _ _ _ _ _ _ _ _ _ rA rB (Nat.pos_of_ne_zero hB) (by omega) (by omega)).mono ?_
      rintro e w2 ⟨a2, c2, a3, c3, rfl, r2, f2, r3, f3, x2⟩
      have hlt := Nat.mod_lt A (Nat.pos_of_ne_zero hB)
      have hl3 := len_mono (Nat.le_of_lt hlt)
      go_wp2_with fail
      go_roundg (A % B)
      case measure => omega
      case rel => exact ⟨B, A % B, b, a3, c', c3, Nat.le_refl _, by rw [← HGC.out, Nat.gcd_comm B, ← Nat.gcd_rec, Nat.gcd_comm], hlB, by omega, rB.ext x2, r3, fB, f3.mono hx.size, hx.trans x2, rfl, rfl⟩
end Go.Proofs.YtgihpfkjpfanmaaGreat


namespace Go.Proofs.YtgihpfkjpfanmaaGreat
open Go.RowKit

theorem sgn_dec (z : Int) : sgn (decide (z < 0)) z.natAbs = z := by
  unfold sgn; by_cases h : z < 0 <;> simp [h] <;> omega

theorem NewInt.base {z : Int} {W w1 w2 : World} {e : Ending} (h : NewInt z w1 e w2) (hx : Ext W w1) : NewInt z W e w2 := by
  obtain ⟨a, c, he, hr, hf, hx'⟩ := h
  exact ⟨a, c, he, hr, hf.mono hx.size, hx.trans hx'⟩

set_option maxHeartbeats 400000 in
/-- ref02.Make. -/
theorem r2_Make (w : World) (s : Bool) (a : Option Addr) (k c n : Nat) (h : Raw w a k c n) :
    Calls Tryz.prog 140 #[.bool s, .slice a k c] w (NewInt (sgn s n) w) := by
  have hl := h.len_le
  have hle := h.le
  cases s with
  | false =>
    go_enter Tryz.func140, Tryz.ntmps140
    go_wp2_with fail
    obtain ⟨W, hW, x0, Z0, A0⟩ := boxes1 w 53 [.bool false, .slice none 0 0]
    rw [← hW]
    clear hW
    obtain ⟨k0_0, k0_1, f0_0, f0_1⟩ := box2 A0 (Ext.refl _)
    have z0 := (A0.ext (Ext.refl _)).lt
    refine (r1_Trim _ _ _ _ _ (h.ext x0)).mono ?_
    rintro e w1 ⟨a1, c1, rfl, hr1, hf1, hx1⟩
    obtain ⟨k0_0, k0_1, f0_0, f0_1⟩ := box2 A0 hx1
    have z0 := (A0.ext hx1).lt
    have fin := NewInt.of_signed (s := false) hr1 hf1 hx1 ⟨rfl, Ext.refl _⟩
    rw [Bool.false_and] at fin
    go_wp2_with fail
    exact bodyPost_ret (by simp [results, Tryz.results140, go_sem, k0_0, k0_1]) rfl (NewInt.touch fin x0 (Touch.two _ (Nat.le_refl _) (by rw [Z0.out]; omega) _ _))
  | true =>
    by_cases h0 : 0 < len n
    · have d0 : decide ((0 : Int) < ((len n : Nat) : Int)) = true := by simp; exact h0
      go_enter Tryz.func140, Tryz.ntmps140
      go_wp2_with fail
      obtain ⟨W, hW, x0, Z0, A0⟩ := boxes1 w 53 [.bool false, .slice none 0 0]
      rw [← hW]
      clear hW
      obtain ⟨k0_0, k0_1, f0_0, f0_1⟩ := box2 A0 (Ext.refl _)
      have z0 := (A0.ext (Ext.refl _)).lt
      refine (r1_Trim _ _ _ _ _ (h.ext x0)).mono ?_
      rintro e w1 ⟨a1, c1, rfl, hr1, hf1, hx1⟩
      obtain ⟨k0_0, k0_1, f0_0, f0_1⟩ := box2 A0 hx1
      have z0 := (A0.ext hx1).lt
      have fin := NewInt.of_signed (s := true) hr1 hf1 hx1 ⟨rfl, Ext.refl _⟩
      rw [decide_eq_true h0, Bool.true_and] at fin
      go_wp2_with fail
      exact bodyPost_ret (by simp [results, Tryz.results140, go_sem, k0_0, k0_1]) rfl (NewInt.touch fin x0 (Touch.two _ (Nat.le_refl _) (by rw [Z0.out]; omega) _ _))
    · have d0 : decide ((0 : Int) < ((len n : Nat) : Int)) = false := by simp; omega
      go_enter Tryz.func140, Tryz.ntmps140
      go_wp2_with fail
      obtain ⟨W, hW, x0, Z0, A0⟩ := boxes1 w 53 [.bool false, .slice none 0 0]
      rw [← hW]
      clear hW
      obtain ⟨k0_0, k0_1, f0_0, f0_1⟩ := box2 A0 (Ext.refl _)
      have z0 := (A0.ext (Ext.refl _)).lt
      refine (r1_Trim _ _ _ _ _ (h.ext x0)).mono ?_
      rintro e w1 ⟨a1, c1, rfl, hr1, hf1, hx1⟩
      obtain ⟨k0_0, k0_1, f0_0, f0_1⟩ := box2 A0 hx1
      have z0 := (A0.ext hx1).lt
      have fin := NewInt.of_signed (s := true) hr1 hf1 hx1 ⟨rfl, Ext.refl _⟩
      rw [decide_eq_false h0, Bool.and_false] at fin
      go_wp2_with fail
      exact bodyPost_ret (by simp [results, Tryz.results140, go_sem, k0_0, k0_1]) rfl (NewInt.touch fin x0 (Touch.two _ (Nat.le_refl _) (by rw [Z0.out]; omega) _ _))

set_option maxHeartbeats 400000 in
/-- ref02.Norm. -/
theorem r2_Norm (w : World) (s : Bool) (a : Option Addr) (k c n : Nat) (h : Raw w a k c n) :
    Calls Tryz.prog 90 #[.agg #[.bool s, .slice a k c]] w (NewInt (sgn s n) w) := by
  go_enter Tryz.func90, Tryz.ntmps90
  go_wp2_with fail
  obtain ⟨W, hW, x0, Z0, A0, A1⟩ := boxes2 w 53 [.bool s, .slice a k c] 53 [.bool false, .slice none 0 0]
  rw [← hW]
  clear hW
  obtain ⟨k0_0, k0_1, f0_0, f0_1⟩ := box2 A0 (Ext.refl _)
  have z0 := (A0.ext (Ext.refl _)).lt
  obtain ⟨k1_0, k1_1, f1_0, f1_1⟩ := box2 A1 (Ext.refl _)
  have z1 := (A1.ext (Ext.refl _)).lt
  refine (r2_Make _ s _ _ _ _ (h.ext x0)).mono ?_
  rintro e w1 fin
  obtain ⟨a1, c1, rfl, hr1, hf1, hx1⟩ := id fin
  obtain ⟨k0_0, k0_1, f0_0, f0_1⟩ := box2 A0 hx1
  have z0 := (A0.ext hx1).lt
  obtain ⟨k1_0, k1_1, f1_0, f1_1⟩ := box2 A1 hx1
  have z1 := (A1.ext hx1).lt
  go_wp2_with fail
  exact bodyPost_ret (by simp [results, Tryz.results90, go_sem, k1_0, k1_1]) rfl (NewInt.touch fin x0 (Touch.two _ (by omega) (by rw [Z0.out]; omega) _ _))

set_option maxHeartbeats 400000 in
/-- ref02.Neg. -/
theorem r2_Neg (w : World) (s : Bool) (a : Option Addr) (k c n : Nat) (h : Raw w a k c n) :
    Calls Tryz.prog 89 #[.agg #[.bool s, .slice a k c]] w (NewInt (- sgn s n) w) := by
  rw [← sgn_not]
  go_enter Tryz.func89, Tryz.ntmps89
  go_wp2_with fail
  obtain ⟨W, hW, x0, Z0, A0, A1⟩ := boxes2 w 53 [.bool s, .slice a k c] 53 [.bool false, .slice none 0 0]
  rw [← hW]
  clear hW
  obtain ⟨k0_0, k0_1, f0_0, f0_1⟩ := box2 A0 (Ext.refl _)
  have z0 := (A0.ext (Ext.refl _)).lt
  obtain ⟨k1_0, k1_1, f1_0, f1_1⟩ := box2 A1 (Ext.refl _)
  have z1 := (A1.ext (Ext.refl _)).lt
  refine (r2_Make _ (!s) _ _ _ _ (h.ext x0)).mono ?_
  rintro e w1 fin
  obtain ⟨a1, c1, rfl, hr1, hf1, hx1⟩ := id fin
  obtain ⟨k0_0, k0_1, f0_0, f0_1⟩ := box2 A0 hx1
  have z0 := (A0.ext hx1).lt
  obtain ⟨k1_0, k1_1, f1_0, f1_1⟩ := box2 A1 hx1
  have z1 := (A1.ext hx1).lt
  go_wp2_with fail
  exact bodyPost_ret (by simp [results, Tryz.results89, go_sem, k1_0, k1_1]) rfl (NewInt.touch fin x0 (Touch.two _ (by omega) (by rw [Z0.out]; omega) _ _))

set_option maxHeartbeats 400000 in
/-- ref02.Abs. -/
theorem r2_Abs (w : World) (s : Bool) (a : Option Addr) (k c n : Nat) (h : Raw w a k c n) :
    Calls Tryz.prog 152 #[.agg #[.bool s, .slice a k c]] w (NewInt ((n : Int)) w) := by
  rw [← sgn_false]
  go_enter Tryz.func152, Tryz.ntmps152
  go_wp2_with fail
  obtain ⟨W, hW, x0, Z0, A0, A1⟩ := boxes2 w 53 [.bool s, .slice a k c] 53 [.bool false, .slice none 0 0]
  rw [← hW]
  clear hW
  obtain ⟨k0_0, k0_1, f0_0, f0_1⟩ := box2 A0 (Ext.refl _)
  have z0 := (A0.ext (Ext.refl _)).lt
  obtain ⟨k1_0, k1_1, f1_0, f1_1⟩ := box2 A1 (Ext.refl _)
  have z1 := (A1.ext (Ext.refl _)).lt
  refine (r2_Make _ false _ _ _ _ (h.ext x0)).mono ?_
  rintro e w1 fin
  obtain ⟨a1, c1, rfl, hr1, hf1, hx1⟩ := id fin
  obtain ⟨k0_0, k0_1, f0_0, f0_1⟩ := box2 A0 hx1
  have z0 := (A0.ext hx1).lt
  obtain ⟨k1_0, k1_1, f1_0, f1_1⟩ := box2 A1 hx1
  have z1 := (A1.ext hx1).lt
  go_wp2_with fail
  exact bodyPost_ret (by simp [results, Tryz.results152, go_sem, k1_0, k1_1]) rfl (NewInt.touch fin x0 (Touch.two _ (by omega) (by rw [Z0.out]; omega) _ _))

set_option maxHeartbeats 400000 in
/-- ref02.FromInt. -/
theorem r2_FromInt (w : World) (v : Int) (h1 : -9223372036854775808 ≤ v) (h2 : v ≤ 9223372036854775807) :
    Calls Tryz.prog 79 #[.int .i64 v] w (NewInt v w) := by
  by_cases h0 : v < 0
  · obtain ⟨n, rfl⟩ : ∃ n : Nat, v = -(n : Int) := ⟨v.natAbs, by omega⟩
    go_enter Tryz.func79, Tryz.ntmps79
    go_wp2_with fail
    obtain ⟨W, hW, x0, Z0, A0⟩ := boxes1 w 53 [.bool false, .slice none 0 0]
    rw [← hW]
    clear hW
    obtain ⟨k0_0, k0_1, f0_0, f0_1⟩ := box2 A0 (Ext.refl _)
    have z0 := (A0.ext (Ext.refl _)).lt
    rw [show -(-(n : Int) + 1) + 1 = (n : Int) from by omega]
    refine (r1_FromUint64 _ n (by omega)).mono ?_
    rintro e w1 ⟨a1, c1, rfl, hr1, hf1, hx1⟩
    obtain ⟨k0_0, k0_1, f0_0, f0_1⟩ := box2 A0 hx1
    have z0 := (A0.ext hx1).lt
    go_wp2_with fail
    refine (r2_Make _ true _ _ _ _ hr1).mono ?_
    rintro e w2 fin0
    have fin := fin0.base hx1
    obtain ⟨a2, c2, rfl, hr2, hf2, hx2⟩ := id fin
    obtain ⟨k0_0, k0_1, f0_0, f0_1⟩ := box2 A0 hx2
    have z0 := (A0.ext hx2).lt
    go_wp2_with fail
    exact bodyPost_ret (by simp [results, Tryz.results79, go_sem, k0_0, k0_1]) rfl (NewInt.touch fin x0 (Touch.two _ (Nat.le_refl _) (by rw [Z0.out]; omega) _ _))
  · obtain ⟨n, rfl⟩ : ∃ n : Nat, v = (n : Int) := ⟨v.natAbs, by omega⟩
    have e1 : IntKind.u64.wrap (n : Int) = (n : Int) := by rw [IntKind.wrap_u64]; omega
    go_enter Tryz.func79, Tryz.ntmps79
    go_wp2_with fail
    obtain ⟨W, hW, x0, Z0, A0⟩ := boxes1 w 53 [.bool false, .slice none 0 0]
    rw [← hW]
    clear hW
    obtain ⟨k0_0, k0_1, f0_0, f0_1⟩ := box2 A0 (Ext.refl _)
    have z0 := (A0.ext (Ext.refl _)).lt
    refine (r1_FromUint64 _ n (by omega)).mono ?_
    rintro e w1 ⟨a1, c1, rfl, hr1, hf1, hx1⟩
    obtain ⟨k0_0, k0_1, f0_0, f0_1⟩ := box2 A0 hx1
    have z0 := (A0.ext hx1).lt
    go_wp2_with fail
    refine (r2_Make _ false _ _ _ _ hr1).mono ?_
    rintro e w2 fin0
    have fin := fin0.base hx1
    obtain ⟨a2, c2, rfl, hr2, hf2, hx2⟩ := id fin
    obtain ⟨k0_0, k0_1, f0_0, f0_1⟩ := box2 A0 hx2
    have z0 := (A0.ext hx2).lt
    go_wp2_with fail
    exact bodyPost_ret (by simp [results, Tryz.results79, go_sem, k0_0, k0_1]) rfl (NewInt.touch fin x0 (Touch.two _ (Nat.le_refl _) (by rw [Z0.out]; omega) _ _))

set_option maxHeartbeats 1000000 in
/-- ref02.Mul. -/
theorem r2_Mul (w : World) (s t : Bool) (a b : Option Addr) (k c k' c' n m : Nat) (h : Raw w a k c n) (h' : Raw w b k' c' m) (b1 : k < 1000000000) (b2 : k' < 1000000000) :
    Calls Tryz.prog 77 #[.agg #[.bool s, .slice a k c], .agg #[.bool t, .slice b k' c']] w (NewInt (sgn s n * sgn t m) w) := by
  rw [← sgn_mul]
  go_enter Tryz.func77, Tryz.ntmps77
  go_wp2_with fail
  obtain ⟨W, hW, x0, Z0, A0, A1, A2⟩ := boxes3 w 53 [.bool s, .slice a k c] 53 [.bool t, .slice b k' c'] 53 [.bool false, .slice none 0 0]
  rw [← hW]
  clear hW
  obtain ⟨k0_0, k0_1, f0_0, f0_1⟩ := box2 A0 (Ext.refl _)
  have z0 := (A0.ext (Ext.refl _)).lt
  obtain ⟨k1_0, k1_1, f1_0, f1_1⟩ := box2 A1 (Ext.refl _)
  have z1 := (A1.ext (Ext.refl _)).lt
  obtain ⟨k2_0, k2_1, f2_0, f2_1⟩ := box2 A2 (Ext.refl _)
  have z2 := (A2.ext (Ext.refl _)).lt
  go_region_held3 (fun w' => w'.cell? ⟨w.heap.size, 0, none⟩ = some (.bool s) ∧ w'.cell? ⟨w.heap.size, 1, none⟩ = some (.slice a k c) ∧ w'.cell? ⟨w.heap.size + 1, 0, none⟩ = some (.bool t) ∧ w'.cell? ⟨w.heap.size + 1, 1, none⟩ = some (.slice b k' c')) (first | exact ⟨k0_0, k0_1, k1_0, k1_1⟩ | (simp [go_sem, k0_0, k0_1, k1_0, k1_1])) (first
    | (go_at_call 143; refine (r1_Mul _ _ _ _ _ _ _ _ _ ((h.ext x0).ext (by exact (Ext.refl _).drew)) ((h'.ext x0).ext (by exact (Ext.refl _).drew)) b1 b2).mono ?_; rintro e w1 ⟨a1, c1, rfl, hr1, hf1, hx1⟩; obtain ⟨k0_0, k0_1, f0_0, f0_1⟩ := box2 A0 (((Ext.refl _).drew).trans hx1); have z0 := (A0.ext (((Ext.refl _).drew).trans hx1)).lt; obtain ⟨k1_0, k1_1, f1_0, f1_1⟩ := box2 A1 (((Ext.refl _).drew).trans hx1); have z1 := (A1.ext (((Ext.refl _).drew).trans hx1)).lt; obtain ⟨k2_0, k2_1, f2_0, f2_1⟩ := box2 A2 (((Ext.refl _).drew).trans hx1); have z2 := (A2.ext (((Ext.refl _).drew).trans hx1)).lt)
    | (go_at_call 140; refine (r2_Make _ _ _ _ _ _ hr1).mono ?_; rintro e w2 ⟨a2, c2, rfl, hr2, hf2, hx2⟩; obtain ⟨k0_0, k0_1, f0_0, f0_1⟩ := box2 A0 ((((Ext.refl _).drew).trans hx1).trans hx2); have z0 := (A0.ext ((((Ext.refl _).drew).trans hx1).trans hx2)).lt; obtain ⟨k1_0, k1_1, f1_0, f1_1⟩ := box2 A1 ((((Ext.refl _).drew).trans hx1).trans hx2); have z1 := (A1.ext ((((Ext.refl _).drew).trans hx1).trans hx2)).lt; obtain ⟨k2_0, k2_1, f2_0, f2_1⟩ := box2 A2 ((((Ext.refl _).drew).trans hx1).trans hx2); have z2 := (A2.ext ((((Ext.refl _).drew).trans hx1).trans hx2)).lt))
  have fin : NewInt (sgn (s != t) (n * m)) W.drew _ w2 := ⟨a2, c2, rfl, hr2, hf2.mono hx1.size, hx1.trans hx2⟩
  go_wp2
  exact bodyPost_ret (by simp [results, Tryz.results77, go_sem, k2_0, k2_1]; cases s <;> cases t <;> simp) rfl (NewInt.touch fin x0.drew (Touch.two _ (by omega) (by rw [World.drew, Z0.out]; omega) _ _))

set_option maxHeartbeats 1000000 in
/-- ref02.Add, equal signs. -/
theorem r2_Add_same (w : World) (s : Bool) (a b : Option Addr) (k c k' c' n m : Nat) (h : Raw w a k c n) (h' : Raw w b k' c' m) (b1 : k < 1000000000) (b2 : k' < 1000000000) :
    Calls Tryz.prog 76 #[.agg #[.bool s, .slice a k c], .agg #[.bool s, .slice b k' c']] w (NewInt (sgn s n + sgn s m) w) := by
  rw [← sgn_add]
  go_enter Tryz.func76, Tryz.ntmps76
  go_wp2_with fail
  obtain ⟨W, hW, x0, Z0, A0, A1, A2⟩ := boxes3 w 53 [.bool s, .slice a k c] 53 [.bool s, .slice b k' c'] 53 [.bool false, .slice none 0 0]
  rw [← hW]
  clear hW
  obtain ⟨k0_0, k0_1, f0_0, f0_1⟩ := box2 A0 (Ext.refl _)
  have z0 := (A0.ext (Ext.refl _)).lt
  obtain ⟨k1_0, k1_1, f1_0, f1_1⟩ := box2 A1 (Ext.refl _)
  have z1 := (A1.ext (Ext.refl _)).lt
  obtain ⟨k2_0, k2_1, f2_0, f2_1⟩ := box2 A2 (Ext.refl _)
  have z2 := (A2.ext (Ext.refl _)).lt
  go_region_held3 (fun w' => w'.cell? ⟨w.heap.size, 0, none⟩ = some (.bool s) ∧ w'.cell? ⟨w.heap.size, 1, none⟩ = some (.slice a k c) ∧ w'.cell? ⟨w.heap.size + 1, 0, none⟩ = some (.bool s) ∧ w'.cell? ⟨w.heap.size + 1, 1, none⟩ = some (.slice b k' c')) (first | exact ⟨k0_0, k0_1, k1_0, k1_1⟩ | (simp [go_sem, k0_0, k0_1, k1_0, k1_1])) (first
    | (go_at_call 141; refine (r1_Add _ _ _ _ _ _ _ _ _ ((h.ext x0).ext (by exact (Ext.refl _).drew)) ((h'.ext x0).ext (by exact (Ext.refl _).drew)) b1 b2).mono ?_; rintro e w1 ⟨a1, c1, rfl, hr1, hf1, hx1⟩; obtain ⟨k0_0, k0_1, f0_0, f0_1⟩ := box2 A0 (((Ext.refl _).drew).trans hx1); have z0 := (A0.ext (((Ext.refl _).drew).trans hx1)).lt; obtain ⟨k1_0, k1_1, f1_0, f1_1⟩ := box2 A1 (((Ext.refl _).drew).trans hx1); have z1 := (A1.ext (((Ext.refl _).drew).trans hx1)).lt; obtain ⟨k2_0, k2_1, f2_0, f2_1⟩ := box2 A2 (((Ext.refl _).drew).trans hx1); have z2 := (A2.ext (((Ext.refl _).drew).trans hx1)).lt)
    | (go_at_call 140; refine (r2_Make _ _ _ _ _ _ hr1).mono ?_; rintro e w2 ⟨a2, c2, rfl, hr2, hf2, hx2⟩; obtain ⟨k0_0, k0_1, f0_0, f0_1⟩ := box2 A0 ((((Ext.refl _).drew).trans hx1).trans hx2); have z0 := (A0.ext ((((Ext.refl _).drew).trans hx1).trans hx2)).lt; obtain ⟨k1_0, k1_1, f1_0, f1_1⟩ := box2 A1 ((((Ext.refl _).drew).trans hx1).trans hx2); have z1 := (A1.ext ((((Ext.refl _).drew).trans hx1).trans hx2)).lt; obtain ⟨k2_0, k2_1, f2_0, f2_1⟩ := box2 A2 ((((Ext.refl _).drew).trans hx1).trans hx2); have z2 := (A2.ext ((((Ext.refl _).drew).trans hx1).trans hx2)).lt))
  have fin : NewInt (sgn s (n + m)) W.drew _ w2 := ⟨a2, c2, rfl, hr2, hf2.mono hx1.size, hx1.trans hx2⟩
  go_wp2
  exact bodyPost_ret (by simp [results, Tryz.results76, go_sem, k2_0, k2_1]) rfl (NewInt.touch fin x0.drew (Touch.two _ (by omega) (by rw [World.drew, Z0.out]; omega) _ _))

set_option maxHeartbeats 1000000 in
/-- ref02.Add, different signs. -/
theorem r2_Add_other (w : World) (s : Bool) (a b : Option Addr) (k c k' c' n m : Nat) (h : Raw w a k c n) (h' : Raw w b k' c' m) :
    Calls Tryz.prog 76 #[.agg #[.bool s, .slice a k c], .agg #[.bool (!s), .slice b k' c']] w (NewInt (sgn s n + sgn (!s) m) w) := by
  have hne : (s == !s) = false := by cases s <;> rfl
  by_cases hle : m ≤ n
  · rw [← sgn_sub1 s n m hle]
    go_enter Tryz.func76, Tryz.ntmps76
    go_wp2_with fail
    obtain ⟨W, hW, x0, Z0, A0, A1, A2⟩ := boxes3 w 53 [.bool s, .slice a k c] 53 [.bool (!s), .slice b k' c'] 53 [.bool false, .slice none 0 0]
    rw [← hW]
    clear hW
    obtain ⟨k0_0, k0_1, f0_0, f0_1⟩ := box2 A0 (Ext.refl _)
    have z0 := (A0.ext (Ext.refl _)).lt
    obtain ⟨k1_0, k1_1, f1_0, f1_1⟩ := box2 A1 (Ext.refl _)
    have z1 := (A1.ext (Ext.refl _)).lt
    obtain ⟨k2_0, k2_1, f2_0, f2_1⟩ := box2 A2 (Ext.refl _)
    have z2 := (A2.ext (Ext.refl _)).lt
    refine (r1_Sub _ _ _ _ _ _ _ _ _ (h.ext x0) (h'.ext x0) hle).mono ?_
    rintro e w1 ⟨a1, c1, rfl, hr1, hf1, hx1⟩
    obtain ⟨k0_0, k0_1, f0_0, f0_1⟩ := box2 A0 hx1
    have z0 := (A0.ext hx1).lt
    obtain ⟨k1_0, k1_1, f1_0, f1_1⟩ := box2 A1 hx1
    have z1 := (A1.ext hx1).lt
    obtain ⟨k2_0, k2_1, f2_0, f2_1⟩ := box2 A2 hx1
    have z2 := (A2.ext hx1).lt
    go_wp2_with fail
    refine (r2_Make _ s _ _ _ _ hr1).mono ?_
    rintro e w2 fin0
    have fin := fin0.base hx1
    obtain ⟨a2, c2, rfl, hr2, hf2, hx2⟩ := id fin
    obtain ⟨k0_0, k0_1, f0_0, f0_1⟩ := box2 A0 hx2
    have z0 := (A0.ext hx2).lt
    obtain ⟨k1_0, k1_1, f1_0, f1_1⟩ := box2 A1 hx2
    have z1 := (A1.ext hx2).lt
    obtain ⟨k2_0, k2_1, f2_0, f2_1⟩ := box2 A2 hx2
    have z2 := (A2.ext hx2).lt
    go_wp2
    exact bodyPost_ret (by simp [results, Tryz.results76, go_sem, k2_0, k2_1]) rfl (NewInt.touch fin x0 (Touch.two _ (by omega) (by rw [Z0.out]; omega) _ _))
  · rw [← sgn_sub2 s n m (by omega)]
    go_enter Tryz.func76, Tryz.ntmps76
    go_wp2_with fail
    obtain ⟨W, hW, x0, Z0, A0, A1, A2⟩ := boxes3 w 53 [.bool s, .slice a k c] 53 [.bool (!s), .slice b k' c'] 53 [.bool false, .slice none 0 0]
    rw [← hW]
    clear hW
    obtain ⟨k0_0, k0_1, f0_0, f0_1⟩ := box2 A0 (Ext.refl _)
    have z0 := (A0.ext (Ext.refl _)).lt
    obtain ⟨k1_0, k1_1, f1_0, f1_1⟩ := box2 A1 (Ext.refl _)
    have z1 := (A1.ext (Ext.refl _)).lt
    obtain ⟨k2_0, k2_1, f2_0, f2_1⟩ := box2 A2 (Ext.refl _)
    have z2 := (A2.ext (Ext.refl _)).lt
    refine (r1_Sub_no _ _ _ _ _ _ _ _ _ (h.ext x0) (h'.ext x0) (by omega)).mono ?_
    rintro e w1 ⟨rfl, hq1⟩
    obtain ⟨k0_0, k0_1, f0_0, f0_1⟩ := box2 A0 hq1
    have z0 := (A0.ext hq1).lt
    obtain ⟨k1_0, k1_1, f1_0, f1_1⟩ := box2 A1 hq1
    have z1 := (A1.ext hq1).lt
    obtain ⟨k2_0, k2_1, f2_0, f2_1⟩ := box2 A2 hq1
    have z2 := (A2.ext hq1).lt
    go_wp2_with fail
    refine (r1_Sub _ _ _ _ _ _ _ _ _ ((h'.ext x0).ext hq1) ((h.ext x0).ext hq1) (by omega)).mono ?_
    rintro e w2 ⟨a1, c1, rfl, hr1, hf1, hx1⟩
    obtain ⟨k0_0, k0_1, f0_0, f0_1⟩ := box2 A0 (hq1.trans hx1)
    have z0 := (A0.ext (hq1.trans hx1)).lt
    obtain ⟨k1_0, k1_1, f1_0, f1_1⟩ := box2 A1 (hq1.trans hx1)
    have z1 := (A1.ext (hq1.trans hx1)).lt
    obtain ⟨k2_0, k2_1, f2_0, f2_1⟩ := box2 A2 (hq1.trans hx1)
    have z2 := (A2.ext (hq1.trans hx1)).lt
    go_wp2_with fail
    refine (r2_Make _ (!s) _ _ _ _ hr1).mono ?_
    rintro e w3 fin0
    have fin := fin0.base (hq1.trans hx1)
    obtain ⟨a2, c2, rfl, hr2, hf2, hx2⟩ := id fin
    obtain ⟨k0_0, k0_1, f0_0, f0_1⟩ := box2 A0 hx2
    have z0 := (A0.ext hx2).lt
    obtain ⟨k1_0, k1_1, f1_0, f1_1⟩ := box2 A1 hx2
    have z1 := (A1.ext hx2).lt
    obtain ⟨k2_0, k2_1, f2_0, f2_1⟩ := box2 A2 hx2
    have z2 := (A2.ext hx2).lt
    go_wp2
    exact bodyPost_ret (by simp [results, Tryz.results76, go_sem, k2_0, k2_1]) rfl (NewInt.touch fin x0 (Touch.two _ (by omega) (by rw [Z0.out]; omega) _ _))

/-- ref02.Add. -/
theorem r2_Add (w : World) (s t : Bool) (a b : Option Addr) (k c k' c' n m : Nat) (h : Raw w a k c n) (h' : Raw w b k' c' m) (b1 : k < 1000000000) (b2 : k' < 1000000000) :
    Calls Tryz.prog 76 #[.agg #[.bool s, .slice a k c], .agg #[.bool t, .slice b k' c']] w (NewInt (sgn s n + sgn t m) w) := by
  by_cases e : t = s
  · subst e; exact r2_Add_same w t a b k c k' c' n m h h' b1 b2
  · obtain rfl : t = !s := by cases s <;> cases t <;> simp_all
    exact r2_Add_other w s a b k c k' c' n m h h'

set_option maxHeartbeats 1000000 in
/-- ref02.GCD. -/
theorem r2_GCD (w : World) (s t : Bool) (a b : Option Addr) (k c k' c' n m : Nat) (h : Raw w a k c n) (h' : Raw w b k' c' m) (b1 : len n < 900000000) (b2 : len m < 900000000) :
    Calls Tryz.prog 139 #[.agg #[.bool s, .slice a k c], .agg #[.bool t, .slice b k' c']] w (NewInt (Nat.gcd n m : Nat) w) := by
  rw [← sgn_false]
  go_enter Tryz.func139, Tryz.ntmps139
  go_wp2_with fail
  obtain ⟨W, hW, x0, Z0, A0, A1, A2⟩ := boxes3 w 53 [.bool s, .slice a k c] 53 [.bool t, .slice b k' c'] 53 [.bool false, .slice none 0 0]
  rw [← hW]
  clear hW
  obtain ⟨k0_0, k0_1, f0_0, f0_1⟩ := box2 A0 (Ext.refl _)
  have z0 := (A0.ext (Ext.refl _)).lt
  obtain ⟨k1_0, k1_1, f1_0, f1_1⟩ := box2 A1 (Ext.refl _)
  have z1 := (A1.ext (Ext.refl _)).lt
  obtain ⟨k2_0, k2_1, f2_0, f2_1⟩ := box2 A2 (Ext.refl _)
  have z2 := (A2.ext (Ext.refl _)).lt
  refine (r1_GCD _ _ _ _ _ _ _ _ _ (h.ext x0) (h'.ext x0) b1 b2).mono ?_
  rintro e w1 ⟨a1, c1, rfl, hr1, hf1, hx1⟩
  obtain ⟨k0_0, k0_1, f0_0, f0_1⟩ := box2 A0 hx1
  have z0 := (A0.ext hx1).lt
  obtain ⟨k1_0, k1_1, f1_0, f1_1⟩ := box2 A1 hx1
  have z1 := (A1.ext hx1).lt
  obtain ⟨k2_0, k2_1, f2_0, f2_1⟩ := box2 A2 hx1
  have z2 := (A2.ext hx1).lt
  go_wp2_with fail
  refine (r2_Make _ false _ _ _ _ hr1).mono ?_
  rintro e w2 fin0
  have fin := fin0.base hx1
  obtain ⟨a2, c2, rfl, hr2, hf2, hx2⟩ := id fin
  obtain ⟨k0_0, k0_1, f0_0, f0_1⟩ := box2 A0 hx2
  have z0 := (A0.ext hx2).lt
  obtain ⟨k1_0, k1_1, f1_0, f1_1⟩ := box2 A1 hx2
  have z1 := (A1.ext hx2).lt
  obtain ⟨k2_0, k2_1, f2_0, f2_1⟩ := box2 A2 hx2
  have z2 := (A2.ext hx2).lt
  go_wp2
  exact bodyPost_ret (by simp [results, Tryz.results139, go_sem, k2_0, k2_1]) rfl (NewInt.touch fin x0 (Touch.two _ (by omega) (by rw [Z0.out]; omega) _ _))

set_option maxHeartbeats 1000000 in
set_option maxRecDepth 100000 in
/-- ref02.Sub. -/
theorem r2_Sub (w : World) (s t : Bool) (a b : Option Addr) (k c k' c' n m : Nat) (h : Raw w a k c n) (h' : Raw w b k' c' m) (b1 : k < 1000000000) (b2 : len m < 1000000000) :
    Calls Tryz.prog 153 #[.agg #[.bool s, .slice a k c], .agg #[.bool t, .slice b k' c']] w (NewInt (sgn s n - sgn t m) w) := by
  obtain ⟨z, hz⟩ : ∃ z, z = -sgn t m := ⟨_, rfl⟩
  have hN : ∀ V, Ext w V → Calls Tryz.prog 89 #[.agg #[.bool t, .slice b k' c']] V (NewInt z V) := by
    intro V hV; rw [hz]; exact r2_Neg V t b k' c' m (h'.ext hV)
  have hA : ∀ V a' c', Ext w V → Raw V a' (len z.natAbs) c' z.natAbs → Calls Tryz.prog 76 #[.agg #[.bool s, .slice a k c], .agg #[.bool (decide (z < 0)), .slice a' (len z.natAbs) c']] V (NewInt (sgn s n - sgn t m) V) := by
    intro V a' c' hV hR
    have := r2_Add V s (decide (z < 0)) a a' k c _ c' n _ (h.ext hV) hR b1 (by rw [hz, Int.natAbs_neg, sgn_natAbs]; exact b2)
    have e : sgn s n + z = sgn s n - sgn t m := by rw [hz, ← Int.sub_eq_add_neg]
    rw [sgn_dec, e] at this
    exact this
  have HA := Lib.hid hA; have HN := Lib.hid hN; clear hA hN hz
  obtain ⟨zr, hzr⟩ : ∃ zr, zr = sgn s n - sgn t m := ⟨_, rfl⟩
  rw [← hzr] at HA ⊢
  clear hzr
  go_enter Tryz.func153, Tryz.ntmps153
  go_wp2_with fail
  obtain ⟨W, hW, x0, Z0, A0, A1, A2⟩ := boxes3 w 53 [.bool s, .slice a k c] 53 [.bool t, .slice b k' c'] 53 [.bool false, .slice none 0 0]
  rw [← hW]
  clear hW
  obtain ⟨k0_0, k0_1, f0_0, f0_1⟩ := box2 A0 (Ext.refl _)
  have z0 := (A0.ext (Ext.refl _)).lt
  obtain ⟨k1_0, k1_1, f1_0, f1_1⟩ := box2 A1 (Ext.refl _)
  have z1 := (A1.ext (Ext.refl _)).lt
  obtain ⟨k2_0, k2_1, f2_0, f2_1⟩ := box2 A2 (Ext.refl _)
  have z2 := (A2.ext (Ext.refl _)).lt
  go_region_held3 (fun w' => w'.cell? ⟨w.heap.size, 0, none⟩ = some (.bool s) ∧ w'.cell? ⟨w.heap.size, 1, none⟩ = some (.slice a k c) ∧ w'.cell? ⟨w.heap.size + 1, 0, none⟩ = some (.bool t) ∧ w'.cell? ⟨w.heap.size + 1, 1, none⟩ = some (.slice b k' c')) (first | exact ⟨k0_0, k0_1, k1_0, k1_1⟩ | (simp [go_sem, k0_0, k0_1, k1_0, k1_1])) (first
    | (go_at_call 89; refine (HN.out _ (by exact x0.drew)).mono ?_; rintro e w1 ⟨a1, c1, rfl, hr1, hf1, hx1⟩; obtain ⟨k0_0, k0_1, f0_0, f0_1⟩ := box2 A0 (((Ext.refl _).drew).trans hx1); have z0 := (A0.ext (((Ext.refl _).drew).trans hx1)).lt; obtain ⟨k1_0, k1_1, f1_0, f1_1⟩ := box2 A1 (((Ext.refl _).drew).trans hx1); have z1 := (A1.ext (((Ext.refl _).drew).trans hx1)).lt; obtain ⟨k2_0, k2_1, f2_0, f2_1⟩ := box2 A2 (((Ext.refl _).drew).trans hx1); have z2 := (A2.ext (((Ext.refl _).drew).trans hx1)).lt)
    | (go_at_call 76; refine (HA.out _ _ _ (x0.drew.trans hx1) hr1).mono ?_; rintro e w2 ⟨a2, c2, rfl, hr2, hf2, hx2⟩; obtain ⟨k0_0, k0_1, f0_0, f0_1⟩ := box2 A0 ((((Ext.refl _).drew).trans hx1).trans hx2); have z0 := (A0.ext ((((Ext.refl _).drew).trans hx1).trans hx2)).lt; obtain ⟨k1_0, k1_1, f1_0, f1_1⟩ := box2 A1 ((((Ext.refl _).drew).trans hx1).trans hx2); have z1 := (A1.ext ((((Ext.refl _).drew).trans hx1).trans hx2)).lt; obtain ⟨k2_0, k2_1, f2_0, f2_1⟩ := box2 A2 ((((Ext.refl _).drew).trans hx1).trans hx2); have z2 := (A2.ext ((((Ext.refl _).drew).trans hx1).trans hx2)).lt))
  have fin : NewInt zr W.drew _ w2 := ⟨a2, c2, rfl, hr2, hf2.mono hx1.size, hx1.trans hx2⟩
  go_wp2
  exact bodyPost_ret (by simp [results, Tryz.results153, go_sem, k2_0, k2_1]) rfl (NewInt.touch fin x0.drew (Touch.two _ (by omega) (by rw [World.drew, Z0.out]; omega) _ _))

end Go.Proofs.YtgihpfkjpfanmaaGreat


namespace Go.Proofs.YtgihpfkjpfanmaaGreat
open Go.RowKit

theorem NewInts.of4 {w W w4 w5 : World} {a a' : Option Addr} {c c' : Nat} {x y : Int} (h : Raw w4 a (len x.natAbs) c x.natAbs) (h' : Raw w4 a' (len y.natAbs) c' y.natAbs) (hf : Fr W.heap.size a) (hf' : Fr W.heap.size a') (hW : Ext w W) (h2 : Ext w w4)
    (t : Touch w.heap.size W.heap.size w4 w5) : NewInts x y w (.returned (.tuple #[.agg #[.bool (decide (x < 0)), .slice a (len x.natAbs) c], .agg #[.bool (decide (y < 0)), .slice a' (len y.natAbs) c'], .bool true])) w5 :=
  ⟨a, c, a', c', rfl, h.touch t hf.out, hf.mono hW.size, h'.touch t hf'.out, hf'.mono hW.size, h2.of_touch t⟩
theorem Arr.set2 {w : World} {b : Nat} {T : TypeId} {x y : Value} (h : Arr w b T [x, y]) (u v : Value) : Arr ((w.setCell ⟨b, 0, none⟩ u).setCell ⟨b, 1, none⟩ v) b T [u, v] := (h.set 0 u).set 1 v
theorem Arr.other2 {w : World} {b b' : Nat} {T : TypeId} {vs : List Value} (h : Arr w b T vs) (u v : Value) (hb : b' ≠ b) : Arr ((w.setCell ⟨b', 0, none⟩ u).setCell ⟨b', 1, none⟩ v) b T vs := (h.other _ _ hb).other _ _ hb

set_option maxHeartbeats 400000 in
/-- ref02.Sign. -/
theorem r2_Sign (w : World) (s : Bool) (a : Option Addr) (k c n : Nat) (h : Raw w a k c n) :
    Calls Tryz.prog 93 #[.agg #[.bool s, .slice a k c]] w fun e w' => e = .returned (.int .i64 (sgn s n).sign) ∧ Ext w w' := by
  have hN := fun V (hV : Ext w V) => r2_Norm V s a k c n (h.ext hV)
  generalize sgn s n = z at hN ⊢
  have HN := Lib.hid hN; clear hN
  go_enter Tryz.func93, Tryz.ntmps93
  go_wp2_with fail
  obtain ⟨W, hW, x0, Z0, A0⟩ := boxes1 w 53 [.bool s, .slice a k c]
  rw [← hW]
  clear hW
  obtain ⟨k0_0, k0_1, f0_0, f0_1⟩ := box2 A0 (Ext.refl _)
  have z0 := (A0.ext (Ext.refl _)).lt
  refine (HN.out _ x0).mono ?_
  rintro e w1 ⟨a1, c1, rfl, hr1, hf1, hx1⟩
  obtain ⟨k0_0, k0_1, f0_0, f0_1⟩ := box2 A0 hx1
  have z0 := (A0.ext hx1).lt
  have fin : ∀ v0 v1, Ext w ((w1.setCell ⟨w.heap.size, 0, none⟩ v0).setCell ⟨w.heap.size, 1, none⟩ v1) := fun v0 v1 => x0.touch hx1 (Touch.two _ (Nat.le_refl _) (by rw [Z0.out]; omega) _ _)
  have FIN := Lib.hid fin; clear fin
  have lz := hr1.le
  rcases Int.lt_trichotomy z 0 with hz | hz | hz
  · have hs := Int.sign_eq_neg_one_of_neg hz
    have HS := Lib.hid hs; clear hs
    rw [decide_eq_true hz]
    go_wp2_with fail
    go_ret
    exact ⟨ret_int HS.out.symm, FIN.out _ _⟩
  · subst hz
    have hd : decide ((0 : Int) < 0) = false := rfl
    have hl : len (Int.natAbs 0) = 0 := rfl
    rw [hd, hl]
    go_wp2_with fail
    go_ret
    exact ⟨rfl, FIN.out _ _⟩
  · have hs := Int.sign_eq_one_of_pos hz
    have HS := Lib.hid hs; clear hs
    have hp := len_pos.2 (show 0 < z.natAbs by omega)
    have hb : (((len z.natAbs : Nat) : Int) == 0) = false := by rw [beq_eq_false_iff_ne]; omega
    rw [decide_eq_false (show ¬ z < 0 by omega)]
    go_wp2_with fail
    go_ret
    exact ⟨ret_int HS.out.symm, FIN.out _ _⟩

set_option maxHeartbeats 4000000 in
set_option maxRecDepth 100000 in
/-- ref02.DivMod. -/
theorem r2_DivMod (w : World) (s t : Bool) (a b : Option Addr) (k c k' c' n m : Nat) (h : Raw w a k c n) (h' : Raw w b k' c' m) (hm : 0 < m) (b1 : k < 900000000) (b2 : k' < 900000000) :
    Calls Tryz.prog 92 #[.agg #[.bool s, .slice a k c], .agg #[.bool t, .slice b k' c']] w (NewInts (sgn s n / sgn t m) (sgn s n % sgn t m) w) := by
  have hq1 := fun V a' c' (hV : Raw V a' (len (n / m)) c' (n / m)) => r2_Make V (s != t) a' _ c' _ hV
  have hq2 := fun V a' c' (hV : Raw V a' (len (n % m)) c' (n % m)) => r2_Make V s a' _ c' _ hV
  obtain ⟨Q, hQ⟩ : ∃ Q, Q = sgn (s != t) (n / m) := ⟨_, rfl⟩
  obtain ⟨R, hR⟩ : ∃ R, R = sgn s (n % m) := ⟨_, rfl⟩
  rw [← hQ] at hq1
  rw [← hR] at hq2
  have HQ1 := Lib.hid hq1; have HQ2 := Lib.hid hq2; have HQ := Lib.hid hQ; have HR := Lib.hid hR; clear hq1 hq2 hQ hR
  go_enter Tryz.func92, Tryz.ntmps92
  go_wp2_with fail
  obtain ⟨W, hW, x0, Z0, A0, A1, A2, A3⟩ := boxes4 w 53 [.bool s, .slice a k c] 53 [.bool t, .slice b k' c'] 53 [.bool false, .slice none 0 0] 53 [.bool false, .slice none 0 0]
  rw [← hW]
  clear hW
  obtain ⟨k0_0, k0_1, f0_0, f0_1⟩ := box2 A0 (Ext.refl _)
  have z0 := (A0.ext (Ext.refl _)).lt
  obtain ⟨k1_0, k1_1, f1_0, f1_1⟩ := box2 A1 (Ext.refl _)
  have z1 := (A1.ext (Ext.refl _)).lt
  obtain ⟨k2_0, k2_1, f2_0, f2_1⟩ := box2 A2 (Ext.refl _)
  have z2 := (A2.ext (Ext.refl _)).lt
  obtain ⟨k3_0, k3_1, f3_0, f3_1⟩ := box2 A3 (Ext.refl _)
  have z3 := (A3.ext (Ext.refl _)).lt
  refine (r1_DivMod _ _ _ _ _ _ _ _ _ (h.ext x0) (h'.ext x0) hm b1 b2).mono ?_
  rintro e w1 ⟨a1, c1, a2, c2, rfl, hr1, hf1, hr2, hf2, hx1⟩
  obtain ⟨k0_0, k0_1, f0_0, f0_1⟩ := box2 A0 hx1
  have z0 := (A0.ext hx1).lt
  obtain ⟨k1_0, k1_1, f1_0, f1_1⟩ := box2 A1 hx1
  have z1 := (A1.ext hx1).lt
  obtain ⟨k2_0, k2_1, f2_0, f2_1⟩ := box2 A2 hx1
  have z2 := (A2.ext hx1).lt
  obtain ⟨k3_0, k3_1, f3_0, f3_1⟩ := box2 A3 hx1
  have z3 := (A3.ext hx1).lt
  have tok1 : True := trivial
  go_wp2_with fail
  go_region_held3 (fun w' => w'.cell? ⟨w.heap.size, 0, none⟩ = some (.bool s) ∧ w'.cell? ⟨w.heap.size, 1, none⟩ = some (.slice a k c) ∧ w'.cell? ⟨w.heap.size + 1, 0, none⟩ = some (.bool t) ∧ w'.cell? ⟨w.heap.size + 1, 1, none⟩ = some (.slice b k' c')) (first | exact ⟨k0_0, k0_1, k1_0, k1_1⟩ | (simp [go_sem, k0_0, k0_1, k1_0, k1_1])) (first
    | (go_at_call 140; have _t := tok1; refine (HQ1.out _ _ _ (hr1.ext (by exact (Ext.refl _).drew))).mono ?_; rintro e w2 ⟨a3, c3, rfl, hr3, hf3, hx2⟩; clear tok1 _t; obtain ⟨k0_0, k0_1, f0_0, f0_1⟩ := box2 A0 (hx1.drew.trans hx2); have z0 := (A0.ext (hx1.drew.trans hx2)).lt; obtain ⟨k1_0, k1_1, f1_0, f1_1⟩ := box2 A1 (hx1.drew.trans hx2); have z1 := (A1.ext (hx1.drew.trans hx2)).lt; obtain ⟨k2_0, k2_1, f2_0, f2_1⟩ := box2 A2 (hx1.drew.trans hx2); have z2 := (A2.ext (hx1.drew.trans hx2)).lt; obtain ⟨k3_0, k3_1, f3_0, f3_1⟩ := box2 A3 (hx1.drew.trans hx2); have z3 := (A3.ext (hx1.drew.trans hx2)).lt)
    | (go_at_call 140; refine (HQ2.out _ _ _ ((hr2.ext (by exact (Ext.refl _).drew)).ext hx2)).mono ?_; rintro e w3 ⟨a4, c4, rfl, hr4, hf4, hx3⟩; obtain ⟨k0_0, k0_1, f0_0, f0_1⟩ := box2 A0 ((hx1.drew.trans hx2).trans hx3); have z0 := (A0.ext ((hx1.drew.trans hx2).trans hx3)).lt; obtain ⟨k1_0, k1_1, f1_0, f1_1⟩ := box2 A1 ((hx1.drew.trans hx2).trans hx3); have z1 := (A1.ext ((hx1.drew.trans hx2).trans hx3)).lt; obtain ⟨k2_0, k2_1, f2_0, f2_1⟩ := box2 A2 ((hx1.drew.trans hx2).trans hx3); have z2 := (A2.ext ((hx1.drew.trans hx2).trans hx3)).lt; obtain ⟨k3_0, k3_1, f3_0, f3_1⟩ := box2 A3 ((hx1.drew.trans hx2).trans hx3); have z3 := (A3.ext ((hx1.drew.trans hx2).trans hx3)).lt))
  go_upto_region 5 with fail
  have xx : Ext W w3 := (hx1.drew.trans hx2).trans hx3
  have tt : Touch w.heap.size W.heap.size w3 ((((w3.setCell ⟨w.heap.size + 1 + 1, 0, none⟩ (.bool (decide (Q < 0)))).setCell ⟨w.heap.size + 1 + 1, 1, none⟩ (.slice a3 (len Q.natAbs) c3)).setCell ⟨w.heap.size + 1 + 1 + 1, 0, none⟩ (.bool (decide (R < 0)))).setCell ⟨w.heap.size + 1 + 1 + 1, 1, none⟩ (.slice a4 (len R.natAbs) c4)) := (Touch.two _ (by omega) (by rw [Z0.out]; omega) _ _).trans (Touch.two _ (by omega) (by rw [Z0.out]; omega) _ _)
  have D0 : Arr ((((w3.setCell ⟨w.heap.size + 1 + 1, 0, none⟩ (.bool (decide (Q < 0)))).setCell ⟨w.heap.size + 1 + 1, 1, none⟩ (.slice a3 (len Q.natAbs) c3)).setCell ⟨w.heap.size + 1 + 1 + 1, 0, none⟩ (.bool (decide (R < 0)))).setCell ⟨w.heap.size + 1 + 1 + 1, 1, none⟩ (.slice a4 (len R.natAbs) c4)) w.heap.size 53 [.bool s, .slice a k c] := ((A0.ext xx).other2 _ _ (by omega)).other2 _ _ (by omega)
  have D1 : Arr ((((w3.setCell ⟨w.heap.size + 1 + 1, 0, none⟩ (.bool (decide (Q < 0)))).setCell ⟨w.heap.size + 1 + 1, 1, none⟩ (.slice a3 (len Q.natAbs) c3)).setCell ⟨w.heap.size + 1 + 1 + 1, 0, none⟩ (.bool (decide (R < 0)))).setCell ⟨w.heap.size + 1 + 1 + 1, 1, none⟩ (.slice a4 (len R.natAbs) c4)) (w.heap.size + 1) 53 [.bool t, .slice b k' c'] := ((A1.ext xx).other2 _ _ (by omega)).other2 _ _ (by omega)
  have D2 : Arr ((((w3.setCell ⟨w.heap.size + 1 + 1, 0, none⟩ (.bool (decide (Q < 0)))).setCell ⟨w.heap.size + 1 + 1, 1, none⟩ (.slice a3 (len Q.natAbs) c3)).setCell ⟨w.heap.size + 1 + 1 + 1, 0, none⟩ (.bool (decide (R < 0)))).setCell ⟨w.heap.size + 1 + 1 + 1, 1, none⟩ (.slice a4 (len R.natAbs) c4)) (w.heap.size + 2) 53 [.bool (decide (Q < 0)), .slice a3 (len Q.natAbs) c3] := ((A2.ext xx).set2 _ _).other2 _ _ (by omega)
  have D3 : Arr ((((w3.setCell ⟨w.heap.size + 1 + 1, 0, none⟩ (.bool (decide (Q < 0)))).setCell ⟨w.heap.size + 1 + 1, 1, none⟩ (.slice a3 (len Q.natAbs) c3)).setCell ⟨w.heap.size + 1 + 1 + 1, 0, none⟩ (.bool (decide (R < 0)))).setCell ⟨w.heap.size + 1 + 1 + 1, 1, none⟩ (.slice a4 (len R.natAbs) c4)) (w.heap.size + 3) 53 [.bool (decide (R < 0)), .slice a4 (len R.natAbs) c4] := ((A3.ext xx).other2 _ _ (by omega)).set2 _ _
  have e4 := x0.touch xx tt
  have f3 := hf3.mono (hx1.drew).size
  have f4 := hf4.mono ((hx1.drew).trans hx2).size
  have r3 := (hr3.ext hx3).touch tt (Fr.out f3)
  have r4 := hr4.touch tt (Fr.out f4)
  have zw := tt.size
  generalize ((((w3.setCell ⟨w.heap.size + 1 + 1, 0, none⟩ (.bool (decide (Q < 0)))).setCell ⟨w.heap.size + 1 + 1, 1, none⟩ (.slice a3 (len Q.natAbs) c3)).setCell ⟨w.heap.size + 1 + 1 + 1, 0, none⟩ (.bool (decide (R < 0)))).setCell ⟨w.heap.size + 1 + 1 + 1, 1, none⟩ (.slice a4 (len R.natAbs) c4)) = w4 at *
  clear tt hr3 hr4 hf3 hf4 hr1 hr2 hf1 hf2 HQ1 HQ2 k0_0 k0_1 f0_0 f0_1 k1_0 k1_1 f1_0 f1_1 k2_0 k2_1 f2_0 f2_1 k3_0 k3_1 f3_0 f3_1 A0 A1 A2 A3
  have F3 : Fr w.heap.size a3 := f3.mono x0.size
  have F4 : Fr w.heap.size a4 := f4.mono x0.size
  obtain ⟨k0_0, k0_1, f0_0, f0_1⟩ := box2 D0 (Ext.refl _)
  obtain ⟨k1_0, k1_1, f1_0, f1_1⟩ := box2 D1 (Ext.refl _)
  obtain ⟨k2_0, k2_1, f2_0, f2_1⟩ := box2 D2 (Ext.refl _)
  obtain ⟨k3_0, k3_1, f3_0, f3_1⟩ := box2 D3 (Ext.refl _)
  have zW := Z0.out
  have HZW := Lib.hid zW
  by_cases hRn : R < 0
  · have hs1 : s = true := by
      cases s with
      | true => rfl
      | false => rw [HR.out, sgn_false] at hRn; omega
    subst hs1
    have hnm : 0 < n % m := by rw [HR.out, sgn_true] at hRn; omega
    obtain ⟨q1, q2⟩ := ediv_case_neg (t := t) hm hnm
    obtain ⟨M, hM⟩ : ∃ M : Int, M = (m : Int) := ⟨_, rfl⟩
    obtain ⟨R2, hR2⟩ : ∃ R2 : Int, R2 = R + M := ⟨_, rfl⟩
    have hR2v : sgn true n % sgn t m = R2 := by
      have := Nat.mod_lt n hm
      rw [q2, hR2, HR.out, hM, sgn_true]; omega
    have hR2n : decide (R2 < 0) = false := decide_eq_false (by have := Nat.mod_lt n hm; rw [hR2, HR.out, hM, sgn_true]; omega)
    have hA : ∀ V, Ext w V → Calls Tryz.prog 152 #[.agg #[.bool t, .slice b k' c']] V (NewInt M V) := by
      intro V hV; rw [hM]; exact r2_Abs V t b k' c' m (h'.ext hV)
    have hnm0 : R.natAbs = n % m := by rw [HR.out, sgn_natAbs]
    have hlr : len R.natAbs < 900000000 := by
      have e1 := len_mono (Nat.le_of_lt (Nat.mod_lt n hm))
      have e2 := h'.len_le
      rw [hnm0]; omega
    have hlM : len M.natAbs < 900000000 := by
      have e2 := h'.len_le
      rw [hM, Int.natAbs_natCast]; omega
    have hS : ∀ V a' c', Ext w4 V → Raw V a' (len M.natAbs) c' M.natAbs → Calls Tryz.prog 76 #[.agg #[.bool true, .slice a4 (len R.natAbs) c4], .agg #[.bool (decide (M < 0)), .slice a' (len M.natAbs) c']] V (NewInt R2 V) := by
      intro V a' c' hV hRw
      have := r2_Add V true (decide (M < 0)) a4 a' _ c4 _ c' _ _ (r4.ext hV) hRw (by omega) (by omega)
      rw [sgn_dec] at this
      rw [hR2]
      rw [show sgn true R.natAbs = R from by rw [← decide_eq_true hRn]; exact sgn_dec R] at this
      exact this
    have hlQ : len Q.natAbs < 900000000 := by
      have e1 : Q.natAbs = n / m := by rw [HQ.out, sgn_natAbs]
      have e2 := len_mono (Nat.div_le_self n m)
      have e3 := h.len_le
      rw [e1]; omega
    obtain ⟨ONE, hONE⟩ : ∃ O : Int, O = 1 := ⟨_, rfl⟩
    have hO : ∀ V, Calls Tryz.prog 79 #[.int .i64 1] V (NewInt ONE V) := by
      intro V; rw [hONE]; exact r2_FromInt V 1 (by decide) (by decide)
    have HA := Lib.hid hA; have HS := Lib.hid hS; have HO := Lib.hid hO
    have HR2 := Lib.hid hR2v; have HR2N := Lib.hid hR2n; have HONE := Lib.hid hONE; have HQ1 := Lib.hid q1
    clear hA hS hO q1 q2 hR2 hR2v hR2n hM hnm0 hONE hnm
    rw [decide_eq_true hRn] at *
    go_upto_region 6 with fail
    go_cut [] (fun wx => ∃ a6 c6, Arr wx w.heap.size 53 [.bool true, .slice a k c] ∧ Arr wx (w.heap.size + 1) 53 [.bool t, .slice b k' c'] ∧ Arr wx (w.heap.size + 2) 53 [.bool (decide (Q < 0)), .slice a3 (len Q.natAbs) c3] ∧ Arr wx (w.heap.size + 3) 53 [.bool (decide (R2 < 0)), .slice a6 (len R2.natAbs) c6] ∧ Raw wx a6 (len R2.natAbs) c6 R2.natAbs ∧ Raw wx a3 (len Q.natAbs) c3 Q.natAbs ∧ Fr W.heap.size a6 ∧ Ext w wx ∧ W.heap.size ≤ wx.heap.size)
    case first =>
      go_region_with (first
        | (go_at_call 152; refine (HA.out _ (by exact e4.drew)).mono ?_; rintro e w5 ⟨a5, c5, rfl, hr5, hf5, hx5⟩; obtain ⟨k0_0, k0_1, f0_0, f0_1⟩ := box2 D0 ((Ext.refl _).drew.trans hx5); obtain ⟨k1_0, k1_1, f1_0, f1_1⟩ := box2 D1 ((Ext.refl _).drew.trans hx5); obtain ⟨k2_0, k2_1, f2_0, f2_1⟩ := box2 D2 ((Ext.refl _).drew.trans hx5); obtain ⟨k3_0, k3_1, f3_0, f3_1⟩ := box2 D3 ((Ext.refl _).drew.trans hx5))
        | (go_at_call 76; refine (HS.out _ _ _ (by exact (Ext.refl _).drew.trans hx5) hr5).mono ?_; rintro e w6 ⟨a6, c6, rfl, hr6, hf6, hx6⟩; obtain ⟨k0_0, k0_1, f0_0, f0_1⟩ := box2 D0 (((Ext.refl _).drew.trans hx5).trans hx6); obtain ⟨k1_0, k1_1, f1_0, f1_1⟩ := box2 D1 (((Ext.refl _).drew.trans hx5).trans hx6); obtain ⟨k2_0, k2_1, f2_0, f2_1⟩ := box2 D2 (((Ext.refl _).drew.trans hx5).trans hx6); obtain ⟨k3_0, k3_1, f3_0, f3_1⟩ := box2 D3 (((Ext.refl _).drew.trans hx5).trans hx6)))
      all_goals go_wp2_with fail
      all_goals go_meet
      all_goals have xx6 : Ext w4 w6 := ((Ext.refl _).drew.trans hx5).trans hx6
      all_goals have zz6 : W.heap.size ≤ w4.heap.size := by rw [zw]; exact xx.size
      all_goals have f6 : Fr W.heap.size a6 := hf6.mono (Nat.le_trans zz6 (Nat.le_trans (Ext.refl _).drew.size hx5.size))
      all_goals have t6 := Touch.two (lo := w.heap.size) (hi := W.heap.size) (b := w.heap.size + 3) w6 (by omega) (by omega) (.bool (decide (R2 < 0))) (.slice a6 (len R2.natAbs) c6)
      all_goals exact ⟨a6, c6, (D0.ext xx6).other2 _ _ (by omega), (D1.ext xx6).other2 _ _ (by omega), (D2.ext xx6).other2 _ _ (by omega), (D3.ext xx6).set2 _ _, hr6.touch t6 (Fr.out f6), (r3.ext xx6).touch t6 (Fr.out f3), f6, (e4.trans xx6).of_touch t6, by rw [t6.size]; exact Nat.le_trans zz6 xx6.size⟩
    case rest =>
      obtain ⟨a6, c6, E0, E1, E2, E3, r67, r37, f67, e7, zw7⟩ := hcut
      obtain ⟨w7, rfl⟩ : ∃ w7 : World, w7 = wc := ⟨_, rfl⟩
      clear D0 D1 D2 D3 k0_0 k0_1 f0_0 f0_1 k1_0 k1_1 f1_0 f1_1 k2_0 k2_1 f2_0 f2_1 k3_0 k3_1 f3_0 f3_1 r3 r4 HS HA
      obtain ⟨k0_0, k0_1, f0_0, f0_1⟩ := box2 E0 (Ext.refl _); obtain ⟨k1_0, k1_1, f1_0, f1_1⟩ := box2 E1 (Ext.refl _); obtain ⟨k2_0, k2_1, f2_0, f2_1⟩ := box2 E2 (Ext.refl _); obtain ⟨k3_0, k3_1, f3_0, f3_1⟩ := box2 E3 (Ext.refl _)
      cases t with
      | true =>
        obtain ⟨Q2, hQ2⟩ : ∃ Q2 : Int, Q2 = Q + ONE := ⟨_, rfl⟩
        have hQ3 : ∀ V a' c', Ext w7 V → Raw V a' (len ONE.natAbs) c' ONE.natAbs → Calls Tryz.prog 76 #[.agg #[.bool (decide (Q < 0)), .slice a3 (len Q.natAbs) c3], .agg #[.bool (decide (ONE < 0)), .slice a' (len ONE.natAbs) c']] V (NewInt Q2 V) := by
          intro V a' c' hV hRw
          have := r2_Add V (decide (Q < 0)) (decide (ONE < 0)) a3 a' _ c3 _ c' _ _ (r37.ext hV) hRw (by omega) (by rw [HONE.out]; decide)
          rw [sgn_dec, sgn_dec] at this
          rw [hQ2]
          exact this
        have hQv : sgn true n / sgn true m = Q2 := by
          rw [HQ1.out, hQ2, HQ.out, HONE.out]
          simp [sgn]
        have HQ3 := Lib.hid hQ3; have HQV := Lib.hid hQv
        clear hQ3 hQv hQ2
        go_wp2_with fail
        go_region_with (first
          | (go_at_call 79; refine (HO.out _).mono ?_; rintro e w8 ⟨a8, c8, rfl, hr8, hf8, hx8⟩; obtain ⟨k0_0, k0_1, f0_0, f0_1⟩ := box2 E0 ((Ext.refl _).drew.trans hx8); obtain ⟨k1_0, k1_1, f1_0, f1_1⟩ := box2 E1 ((Ext.refl _).drew.trans hx8); obtain ⟨k2_0, k2_1, f2_0, f2_1⟩ := box2 E2 ((Ext.refl _).drew.trans hx8); obtain ⟨k3_0, k3_1, f3_0, f3_1⟩ := box2 E3 ((Ext.refl _).drew.trans hx8))
          | (go_at_call 76; refine (HQ3.out _ _ _ (by exact (Ext.refl _).drew.trans hx8) hr8).mono ?_; rintro e w9 ⟨a9, c9, rfl, hr9, hf9, hx9⟩; obtain ⟨k0_0, k0_1, f0_0, f0_1⟩ := box2 E0 (((Ext.refl _).drew.trans hx8).trans hx9); obtain ⟨k1_0, k1_1, f1_0, f1_1⟩ := box2 E1 (((Ext.refl _).drew.trans hx8).trans hx9); obtain ⟨k2_0, k2_1, f2_0, f2_1⟩ := box2 E2 (((Ext.refl _).drew.trans hx8).trans hx9); obtain ⟨k3_0, k3_1, f3_0, f3_1⟩ := box2 E3 (((Ext.refl _).drew.trans hx8).trans hx9)))
        all_goals have xx9 : Ext w7 w9 := ((Ext.refl _).drew.trans hx8).trans hx9
        all_goals have f9 : Fr W.heap.size a9 := hf9.mono (Nat.le_trans zw7 (Nat.le_trans (Ext.refl _).drew.size hx8.size))
        all_goals go_upto_region 10 with fail
        all_goals have t9 := Touch.two (lo := w.heap.size) (hi := W.heap.size) (b := w.heap.size + 2) w9 (by omega) (by omega) (.bool (decide (Q2 < 0))) (.slice a9 (len Q2.natAbs) c9)
        all_goals have G2 := (E2.ext xx9).set2 (.bool (decide (Q2 < 0))) (.slice a9 (len Q2.natAbs) c9)
        all_goals have G3 := (E3.ext xx9).other2 (b' := w.heap.size + 2) (.bool (decide (Q2 < 0))) (.slice a9 (len Q2.natAbs) c9) (by omega)
        all_goals have e10 := (e7.trans xx9).of_touch t9
        all_goals have r9 := hr9.touch t9 (Fr.out f9)
        all_goals have r6 := (r67.ext xx9).touch t9 (Fr.out f67)
        all_goals rw [show w.heap.size + 1 + 1 = w.heap.size + 2 from rfl]
        all_goals generalize (w9.setCell ⟨w.heap.size + 2, 0, none⟩ (.bool (decide (Q2 < 0)))).setCell ⟨w.heap.size + 2, 1, none⟩ (.slice a9 (len Q2.natAbs) c9) = w10 at *
        all_goals obtain ⟨k2_0, k2_1, f2_0, f2_1⟩ := box2 G2 (Ext.refl _)
        all_goals obtain ⟨k3_0, k3_1, f3_0, f3_1⟩ := box2 G3 (Ext.refl _)
        all_goals go_wp2_with fail
        all_goals go_region
        all_goals go_wp2_with fail
        all_goals rw [HQV.out, HR2.out]
        all_goals exact bodyPost_ret (v := .tuple #[.agg #[.bool (decide (Q2 < 0)), .slice a9 (len Q2.natAbs) c9], .agg #[.bool (decide (R2 < 0)), .slice a6 (len R2.natAbs) c6], .bool true]) (by simp [results, Tryz.results92, go_sem, k2_0, k2_1, k3_0, k3_1]) rfl (NewInts.of4 r9 r6 f9 f67 x0 e10 (((Touch.two _ (by omega) (by omega) _ _).trans (Touch.two _ (by omega) (by omega) _ _)).drew))
      | false =>
        obtain ⟨Q2, hQ2⟩ : ∃ Q2 : Int, Q2 = Q - ONE := ⟨_, rfl⟩
        have hQ3 : ∀ V a' c', Ext w7 V → Raw V a' (len ONE.natAbs) c' ONE.natAbs → Calls Tryz.prog 153 #[.agg #[.bool (decide (Q < 0)), .slice a3 (len Q.natAbs) c3], .agg #[.bool (decide (ONE < 0)), .slice a' (len ONE.natAbs) c']] V (NewInt Q2 V) := by
          intro V a' c' hV hRw
          have := r2_Sub V (decide (Q < 0)) (decide (ONE < 0)) a3 a' _ c3 _ c' _ _ (r37.ext hV) hRw (by omega) (by rw [HONE.out]; decide)
          rw [sgn_dec, sgn_dec] at this
          rw [hQ2]
          exact this
        have hQv : sgn true n / sgn false m = Q2 := by
          rw [HQ1.out, hQ2, HQ.out, HONE.out]
          simp [sgn]; omega
        have HQ3 := Lib.hid hQ3; have HQV := Lib.hid hQv
        clear hQ3 hQv hQ2
        go_wp2_with fail
        go_region_with (first
          | (go_at_call 79; refine (HO.out _).mono ?_; rintro e w8 ⟨a8, c8, rfl, hr8, hf8, hx8⟩; obtain ⟨k0_0, k0_1, f0_0, f0_1⟩ := box2 E0 ((Ext.refl _).drew.trans hx8); obtain ⟨k1_0, k1_1, f1_0, f1_1⟩ := box2 E1 ((Ext.refl _).drew.trans hx8); obtain ⟨k2_0, k2_1, f2_0, f2_1⟩ := box2 E2 ((Ext.refl _).drew.trans hx8); obtain ⟨k3_0, k3_1, f3_0, f3_1⟩ := box2 E3 ((Ext.refl _).drew.trans hx8))
          | (go_at_call 153; refine (HQ3.out _ _ _ (by exact (Ext.refl _).drew.trans hx8) hr8).mono ?_; rintro e w9 ⟨a9, c9, rfl, hr9, hf9, hx9⟩; obtain ⟨k0_0, k0_1, f0_0, f0_1⟩ := box2 E0 (((Ext.refl _).drew.trans hx8).trans hx9); obtain ⟨k1_0, k1_1, f1_0, f1_1⟩ := box2 E1 (((Ext.refl _).drew.trans hx8).trans hx9); obtain ⟨k2_0, k2_1, f2_0, f2_1⟩ := box2 E2 (((Ext.refl _).drew.trans hx8).trans hx9); obtain ⟨k3_0, k3_1, f3_0, f3_1⟩ := box2 E3 (((Ext.refl _).drew.trans hx8).trans hx9)))
        all_goals have xx9 : Ext w7 w9 := ((Ext.refl _).drew.trans hx8).trans hx9
        all_goals have f9 : Fr W.heap.size a9 := hf9.mono (Nat.le_trans zw7 (Nat.le_trans (Ext.refl _).drew.size hx8.size))
        all_goals go_upto_region 10 with fail
        all_goals have t9 := Touch.two (lo := w.heap.size) (hi := W.heap.size) (b := w.heap.size + 2) w9 (by omega) (by omega) (.bool (decide (Q2 < 0))) (.slice a9 (len Q2.natAbs) c9)
        all_goals have G2 := (E2.ext xx9).set2 (.bool (decide (Q2 < 0))) (.slice a9 (len Q2.natAbs) c9)
        all_goals have G3 := (E3.ext xx9).other2 (b' := w.heap.size + 2) (.bool (decide (Q2 < 0))) (.slice a9 (len Q2.natAbs) c9) (by omega)
        all_goals have e10 := (e7.trans xx9).of_touch t9
        all_goals have r9 := hr9.touch t9 (Fr.out f9)
        all_goals have r6 := (r67.ext xx9).touch t9 (Fr.out f67)
        all_goals rw [show w.heap.size + 1 + 1 = w.heap.size + 2 from rfl]
        all_goals generalize (w9.setCell ⟨w.heap.size + 2, 0, none⟩ (.bool (decide (Q2 < 0)))).setCell ⟨w.heap.size + 2, 1, none⟩ (.slice a9 (len Q2.natAbs) c9) = w10 at *
        all_goals obtain ⟨k2_0, k2_1, f2_0, f2_1⟩ := box2 G2 (Ext.refl _)
        all_goals obtain ⟨k3_0, k3_1, f3_0, f3_1⟩ := box2 G3 (Ext.refl _)
        all_goals go_wp2_with fail
        all_goals go_region
        all_goals go_wp2_with fail
        all_goals rw [HQV.out, HR2.out]
        all_goals exact bodyPost_ret (v := .tuple #[.agg #[.bool (decide (Q2 < 0)), .slice a9 (len Q2.natAbs) c9], .agg #[.bool (decide (R2 < 0)), .slice a6 (len R2.natAbs) c6], .bool true]) (by simp [results, Tryz.results92, go_sem, k2_0, k2_1, k3_0, k3_1]) rfl (NewInts.of4 r9 r6 f9 f67 x0 e10 (((Touch.two _ (by omega) (by omega) _ _).trans (Touch.two _ (by omega) (by omega) _ _)).drew))
  · have hres : sgn s n / sgn t m = Q ∧ sgn s n % sgn t m = R := by
      have hc : s = false ∨ n % m = 0 := by
        by_cases hn0 : n % m = 0
        · exact Or.inr hn0
        · cases s with
          | false => exact Or.inl rfl
          | true => exact absurd (by rw [HR.out, sgn_true]; omega) hRn
      obtain ⟨q1, q2⟩ := ediv_case (s := s) (t := t) hm hc
      refine ⟨by rw [q1, HQ.out], ?_⟩
      rw [q2, HR.out]
      rcases hc with hc | hc
      · rw [hc, sgn_false]
      · rw [hc, sgn_zero]; rfl
    have HRES := Lib.hid hres; clear hres
    have hdR : 0 ≤ R := by omega
    rw [decide_eq_false hRn] at *
    go_wp2_with fail
    go_region
    all_goals go_wp2_with fail
    all_goals rw [HRES.out.1, HRES.out.2]
    all_goals exact bodyPost_ret (v := .tuple #[.agg #[.bool (decide (Q < 0)), .slice a3 (len Q.natAbs) c3], .agg #[.bool (decide (R < 0)), .slice a4 (len R.natAbs) c4], .bool true]) (by simp [results, Tryz.results92, go_sem, k2_0, k2_1, k3_0, k3_1, hdR]) rfl (NewInts.of4 r3 r4 f3 f4 x0 e4 (((Touch.two _ (by omega) (by omega) _ _).trans (Touch.two _ (by omega) (by omega) _ _)).drew))

end Go.Proofs.YtgihpfkjpfanmaaGreat
