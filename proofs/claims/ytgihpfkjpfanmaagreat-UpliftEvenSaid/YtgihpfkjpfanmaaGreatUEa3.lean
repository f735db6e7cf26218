/- Texts of the proof: Bits, NatL, Nat5, Base3, Int1, Int2, Rat1, Rat2, Lehmer, NatW. -/
import Derived.Test.YtgihpfkjpfanmaaGreatUEa2
import Derived.Test.YtgihpfkjpfanmaaGreatRows
/- Contract of math/bits.LeadingZeros32. -/
namespace Go.Proofs.YtgihpfkjpfanmaaGreat
open Go.RowKit

/-- The number of leading zeros of a limb. -/
def lz (x : Nat) : Nat := 32 - Lib.bitLen x

theorem bitLen_bounds : ∀ x : Nat, 0 < x → x < 2 ^ 64 → 1 ≤ Lib.bitLen x ∧ 2 ^ (Lib.bitLen x - 1) ≤ x ∧ x < 2 ^ Lib.bitLen x := by
  intro x
  induction x using Nat.strongRecOn with
  | ind x ih =>
    intro h0 h
    rw [Lib.bitLen_half x (by omega) h]
    by_cases h1 : x / 2 = 0
    · rw [h1, show Lib.bitLen 0 = 0 from rfl]; simp; omega
    · obtain ⟨a, b, c⟩ := ih (x / 2) (by omega) (by omega) (by omega)
      refine ⟨by omega, ?_, ?_⟩
      · obtain ⟨t, e⟩ : ∃ t, Lib.bitLen (x / 2) = t + 1 := ⟨Lib.bitLen (x / 2) - 1, by omega⟩
        rw [e] at b ⊢
        rw [show 1 + (t + 1) - 1 = t + 1 from by omega, Nat.pow_succ]
        rw [show t + 1 - 1 = t from by omega] at b
        omega
      · rw [Nat.add_comm, Nat.pow_succ]; omega

theorem lz_bounds {x : Nat} (h0 : 0 < x) (h : x < 4294967296) : lz x < 32 ∧ 2147483648 ≤ x * 2 ^ lz x ∧ x * 2 ^ lz x < 4294967296 := by
  obtain ⟨a, b, c⟩ := bitLen_bounds x h0 (by omega)
  have hl := Lib.bitLen_le x 32 (by decide) (by omega)
  unfold lz
  refine ⟨by omega, ?_, ?_⟩
  · have := Nat.mul_le_mul_right (2 ^ (32 - Lib.bitLen x)) b
    rw [← Nat.pow_add, show Lib.bitLen x - 1 + (32 - Lib.bitLen x) = 31 from by omega] at this
    omega
  · have := Nat.mul_lt_mul_of_pos_right c (Nat.two_pow_pos (32 - Lib.bitLen x))
    rw [← Nat.pow_add, show Lib.bitLen x + (32 - Lib.bitLen x) = 32 from by omega] at this
    omega

theorem bits_LeadingZeros32 (x : Nat) (w : World) (h0 : 0 < x) (h1 : x < 4294967296) :
    Calls Tryz.prog 235 #[.int .u32 (x : Nat)] w fun e w' => e = .returned (.int .i64 (lz x : Nat)) ∧ w = w' := by
  have l := Lib.bitLen_le x 32 (by decide) (by omega)
  have e8 : (32 - (Lib.bitLen x : Int) + 9223372036854775808) % 18446744073709551616 - 9223372036854775808 = ((lz x : Nat) : Int) := by unfold lz; omega
  have E8 := Lib.hid e8; clear e8
  have hL := bits_Len32 (x : Int) w (by omega) (by omega)
  rw [Int.toNat_natCast] at hL
  go_enter Tryz.func235, Tryz.ntmps235
  go_wp2_with (go_at_call 203; refine hL.mono ?_; rintro e w' ⟨rfl, rfl⟩)
  go_ret
  exact ⟨ret_int (by rw [← E8.out]; omega), rfl⟩
end Go.Proofs.YtgihpfkjpfanmaaGreat

/- natural.divideLong. -/
namespace Go.Proofs.YtgihpfkjpfanmaaGreat
open Go.RowKit

theorem norm_top {k lo top s m : Nat} (hm : m = lo + 4294967296 ^ k * top) (hlo : lo < 4294967296 ^ k) (hs : s < 32) (z2 : 2147483648 ≤ top * 2 ^ s) (z3 : top * 2 ^ s < 4294967296) :
    m * 2 ^ s < 4294967296 ^ (k + 1) ∧ 2147483648 * 4294967296 ^ k ≤ m * 2 ^ s := by
  have e3 : (4294967296 : Nat) = 2 ^ (32 - s) * 2 ^ s := by rw [← Nat.pow_add, show 32 - s + s = 32 from by omega]
  have h1 : top < 2 ^ (32 - s) := by
    apply Nat.lt_of_not_le; intro h
    have := Nat.mul_le_mul_right (2 ^ s) h
    omega
  have h2 := Nat.mul_le_mul_right (2 ^ s) (show top + 1 ≤ 2 ^ (32 - s) from h1)
  rw [← e3] at h2
  generalize hP : 4294967296 ^ k = P at *
  constructor
  · have h3 : m < P * (top + 1) := by rw [Nat.mul_add]; omega
    have h4 := Nat.mul_lt_mul_of_pos_right h3 (Nat.two_pow_pos s)
    have h5 := Nat.mul_le_mul_left P h2
    rw [Nat.pow_succ, hP]
    rw [Nat.mul_assoc] at h4
    omega
  · have h4 := Nat.mul_le_mul_right (2 ^ s) (show P * top ≤ m by omega)
    have h5 := Nat.mul_le_mul_left P z2
    rw [Nat.mul_assoc] at h4
    rw [Nat.mul_comm]
    omega

/-- The window of one digit. -/
theorem long_window {L : List Nat} {j K V : Nat} (sL : Small L) (hL : j + K + 1 ≤ L.length) (hV : V < 4294967296 ^ K) (hlt : val (L.drop (j + 1)) < V) :
    L = L.take j ++ (L.drop j).take (K + 1) ++ L.drop (j + K + 1) ∧ ((L.drop j).take (K + 1)).length = K + 1 ∧ Small ((L.drop j).take (K + 1)) ∧ val ((L.drop j).take (K + 1)) < V * 4294967296 ∧ val (L.drop (j + K + 1)) = 0 := by
  have e1 : L.drop j = (L.drop j).take (K + 1) ++ L.drop (j + K + 1) := by
    rw [show j + K + 1 = j + (K + 1) from by omega, ← List.drop_drop, List.take_append_drop]
  have h1 := val_drop_succ (l := L) (k := j) (by omega)
  have h2 := limb_lt sL j
  have h3 : val (L.drop j) < V * 4294967296 := by
    have := Nat.mul_le_mul_right 4294967296 (show val (L.drop (j + 1)) + 1 ≤ V from hlt)
    omega
  have h4 : V * 4294967296 ≤ 4294967296 ^ (K + 1) := by
    rw [Nat.pow_succ]; exact Nat.mul_le_mul_right _ (by omega)
  have h5 := congrArg val e1
  have h7 : ((L.drop j).take (K + 1)).length = K + 1 := by rw [List.length_take, List.length_drop]; omega
  rw [val_append, h7] at h5
  refine ⟨by rw [List.append_assoc, ← e1, List.take_append_drop], h7, (sL.drop j).take _, by omega, ?_⟩
  apply Nat.eq_zero_of_not_pos; intro h8
  have := Nat.mul_le_mul_left (4294967296 ^ (K + 1)) (show 1 ≤ val (L.drop (j + K + 1)) from h8)
  omega

theorem long_step {L r Q : List Nat} {j K V N : Nat} (hL : j + K + 1 ≤ L.length) (hLe : L = L.take j ++ (L.drop j).take (K + 1) ++ L.drop (j + K + 1)) (hX : ((L.drop j).take (K + 1)).length = K + 1) (h0 : val (L.drop (j + K + 1)) = 0) (hr : r.length = K + 1)
    (hrv : val r = val ((L.drop j).take (K + 1)) % V) (hQ : j < Q.length) (hv : val (Q.drop (j + 1)) * V * 4294967296 ^ (j + 1) + val L = N) :
    val ((Q.set j (val ((L.drop j).take (K + 1)) / V)).drop j) * V * 4294967296 ^ j + val (L.take j ++ r ++ L.drop (j + K + 1)) = N ∧ val ((L.take j ++ r ++ L.drop (j + K + 1)).drop j) = val r := by
  have hA : (L.take j).length = j := by rw [List.length_take]; omega
  constructor
  · rw [val_drop_set hQ]
    have e1 := congrArg val hLe
    have x1 : val ((L.drop j).take (K + 1) ++ L.drop (j + K + 1)) = val ((L.drop j).take (K + 1)) := by rw [val_append, h0, Nat.mul_zero, Nat.add_zero]
    have x2 : val (r ++ L.drop (j + K + 1)) = val r := by rw [val_append, h0, Nat.mul_zero, Nat.add_zero]
    rw [List.append_assoc, val_append, hA, x1] at e1
    rw [List.append_assoc, val_append, hA, x2]
    have e2 := Nat.div_add_mod' (val ((L.drop j).take (K + 1))) V
    rw [← hrv] at e2
    generalize val ((L.drop j).take (K + 1)) = x at *
    generalize x / V = d at e2 ⊢
    rw [← hv, e1, Nat.pow_succ, ← e2]
    generalize 4294967296 ^ j = p
    generalize val (Q.drop (j + 1)) = q
    rw [Nat.add_mul, Nat.add_mul, Nat.mul_add p, Nat.mul_comm p (d * V)]
    have : 4294967296 * q * V * p = q * V * (p * 4294967296) := by
      rw [Nat.mul_assoc 4294967296 q V, Nat.mul_assoc 4294967296, Nat.mul_comm 4294967296, Nat.mul_assoc (q * V)]
    omega
  · rw [List.append_assoc, List.drop_append_of_le_length (by omega), List.drop_of_length_le (by omega), List.nil_append, val_append, h0, Nat.mul_zero, Nat.add_zero]

theorem long_end {q V R n m s : Nat} (h : q * V + R = n * 2 ^ s) (hV : V = m * 2 ^ s) (hR : R < V) (hm : 0 < m) : q = n / m ∧ R = n % m * 2 ^ s := by
  have hV0 : 0 < V := by omega
  have h1 : q = n * 2 ^ s / V := by rw [← h, Nat.mul_comm, Nat.mul_add_div hV0, Nat.div_eq_of_lt hR, Nat.add_zero]
  have h2 : R = n * 2 ^ s % V := by rw [← h, Nat.mul_comm, Nat.mul_add_mod, Nat.mod_eq_of_lt hR]
  refine ⟨?_, ?_⟩
  · rw [h1, hV, Nat.mul_div_mul_right _ _ (Nat.two_pow_pos s)]
  · rw [h2, hV, Nat.mul_mod_mul_right]

theorem long_start {L : List Nat} {dg K V n s : Nat} (hL : L.length = dg + (K + 1)) (hn : n < 4294967296 ^ (dg + K)) (hs : s < 32) (hv : val L = n * 2 ^ s) (hV : 2147483648 * 4294967296 ^ K ≤ V) : val (L.drop dg) < V := by
  have h1 := val_take_drop L dg (by omega)
  have h2 := Nat.mul_lt_mul_of_pos_right hn (Nat.two_pow_pos s)
  have h3 : 2 ^ s ≤ 2 ^ 31 := Nat.pow_le_pow_right (by decide) (by omega)
  rw [Nat.pow_add] at h2
  generalize 4294967296 ^ dg = p at *
  apply Nat.lt_of_lt_of_le _ hV
  apply Nat.lt_of_not_le; intro h
  have h4 := Nat.mul_le_mul_left p h
  have h5 := Nat.mul_le_mul_left (p * 4294967296 ^ K) h3
  have h6 : p * (2147483648 * 4294967296 ^ K) = p * 4294967296 ^ K * 2 ^ 31 := by rw [Nat.mul_comm 2147483648, Nat.mul_assoc]
  omega

theorem arr_set0 {w : World} {b i : Nat} {T : TypeId} {P : List Nat} (h : Arr w b T (u32s P)) (x : Nat) (v : Int) (hv : v = (x : Int)) : Arr (w.setCell ⟨b, i, none⟩ (.int .u32 v)) b T (u32s (P.set i x)) := by
  subst hv
  have := h.set i (.int .u32 (x : Nat))
  rwa [u32s_set] at this

theorem Touch.ext1 {w0 w w' : World} {b : Nat} (h : Ext w0 w) (t : Touch b (b + 1) w w') (hb : w0.heap.size ≤ b) : Ext w0 w' :=
  ⟨⟨t.os.trans h.below.os, t.tape.trans h.below.tape, t.output.trans h.below.output, by rw [t.size]; exact h.below.size, fun k hk => (t.block k (Or.inl (by omega))).trans (h.below.block k hk)⟩, Nat.le_trans h.drawn t.drawn⟩
theorem Arr.touch1 {w w' : World} {b b' : Nat} {T : TypeId} {vs : List Value} (h : Arr w b' T vs) (t : Touch b (b + 1) w w') (hb : b' ≠ b) : Arr w' b' T vs := by
  unfold Arr; rw [t.block b' (by omega)]; exact h

set_option maxHeartbeats 2000000 in
set_option maxRecDepth 100000 in
theorem nat_divideLong (w : World) (a b : Option Addr) (c c' n m : Nat) (ha : Raw w a (len n) c n) (hb : Raw w b (len m) c' m) (h2 : 2 ≤ len m) (hle : m ≤ n) (hs : len n < 1000000000) :
    Calls Tryz.prog 233 #[.slice a (len n) c, .slice b (len m) c'] w (NewNats (n / m) (n % m) w) := by
  have hlm := len_mono hle
  have la := ha.le
  have lb := hb.le
  obtain ⟨l, hl, hv, hB⟩ := id hb
  obtain ⟨pb, ob, rfl⟩ := hB.at (by omega)
  have hc := hB.cellAt (len m - 1) (by omega)
  have hx := limb_lt hB.small (len m - 1)
  have ht := top_ne_zero hB.small (by omega) (by rw [hv, hl])
  rw [hl] at ht
  obtain ⟨z1, z2, z3⟩ := lz_bounds (x := limb l (len m - 1)) (by omega) hx
  have hlz := bits_LeadingZeros32 (limb l (len m - 1)) w (by omega) hx
  have hmv : m = val (l.take (len m - 1)) + 4294967296 ^ (len m - 1) * limb l (len m - 1) := by
    have := val_take_succ (l := l) (k := len m - 1) (by omega)
    rw [show len m - 1 + 1 = l.length from by omega, List.take_length, hv] at this
    exact this
  have htl := val_take_lt hB.small (t := len m - 1) (by omega)
  have HM := Lib.hid hmv; have HL := Lib.hid hl; have HV := Lib.hid hv; have HTL := Lib.hid htl
  clear hmv hl hv htl
  generalize hS : lz (limb l (len m - 1)) = s at z1 z2 z3 hlz
  clear hS
  go_enter Tryz.func233, Tryz.ntmps233
  go_wp2_with fail
  refine hlz.mono ?_
  rintro e w' ⟨rfl, rfl⟩
  go_wp2_with fail
  refine (nat_shifted _ _ _ _ _ _ hb (by omega) z1).mono ?_
  rintro e w1 ⟨Y', rfl, hY', hYv, sY', hYa, hx1⟩
  go_wp2_with fail
  refine (nat_shifted _ _ _ _ _ _ (ha.ext hx1) hs z1).mono ?_
  rintro e w2 ⟨X0, rfl, hX0, hXv, sX0, hXa, hx2⟩
  have hdg : ∃ dg, len n + 1 = dg + len m := ⟨len n + 1 - len m, by omega⟩
  obtain ⟨dg, hdg⟩ := hdg
  go_wp2_with (at_make; refine wpList_make_one _ rfl _ _ 51 rfl 122 (.int .u32 0) 4 Tryz.underlying51 Tryz.info_u32 rfl _ _ dg rfl rfl (by omega) (by omega) (by omega) (by omega) ?_; intro w3 hw3 hx3 hz3)
  obtain ⟨nt1, nt2⟩ := norm_top HM.out HTL.out z1 z2 z3
  rw [show len m - 1 + 1 = len m from by omega] at nt1
  -- the divisor
  have hYt : val (Y'.take (len m)) = m * 2 ^ s := by rw [val_take_of_le sY' (by omega) (by rw [hYv]; exact len_le.2 nt1), hYv]
  have hYl : (Y'.take (len m)).length = len m := by rw [List.length_take]; omega
  have hYtop : 2147483648 ≤ limb (Y'.take (len m)) (len m - 1) := by
    have h5 := val_take_succ (l := Y'.take (len m)) (k := len m - 1) (by omega)
    rw [show len m - 1 + 1 = (Y'.take (len m)).length from by omega, List.take_length, hYt] at h5
    have h6 := val_take_lt (sY'.take (len m)) (t := len m - 1) (by omega)
    apply Nat.le_of_lt_succ
    apply Nat.lt_of_not_le; intro h7
    have h8 := Nat.mul_le_mul_left (4294967296 ^ (len m - 1)) (show limb (Y'.take (len m)) (len m - 1) + 1 ≤ 2147483648 by omega)
    rw [Nat.mul_add, Nat.mul_one, Nat.mul_comm _ 2147483648] at h8
    omega
  have hst := long_start (L := X0) (dg := dg) (K := len m - 1) (n := n) (s := s) (V := m * 2 ^ s) (by omega) (by rw [show dg + (len m - 1) = len n from by omega]; exact lt_pow_len n) z1 hXv nt2
  have hv12 := hYa.lt
  have hv23 := hXa.lt
  have a1 : Arr w3 w.heap.size 122 (u32s Y') := (hYa.ext hx2).ext hx3
  have a2 : Arr w3 w1.heap.size 122 (u32s X0) := hXa.ext hx3
  have a3 : Arr w3 w2.heap.size 122 (u32s (List.replicate dg 0)) := by have := hw3.out; rwa [u32s_replicate] at this
  have hE : Ext w w3 := (hx1.trans hx2).trans hx3
  have HYT := Lib.hid hYt; have HYL := Lib.hid hYl; have HY' := Lib.hid hY'; have HYV := Lib.hid hYv; have HX0 := Lib.hid hX0; have HXV := Lib.hid hXv
  have HDG := Lib.hid hdg
  have A1 := Lib.hid a1; have A2 := Lib.hid a2; have A3 := Lib.hid a3
  have HNT := Lib.hid nt1; have HST := Lib.hid hst
  clear hYt hYl hY' hYv hX0 hXv hdg a1 a2 a3 nt1 nt2 hst hw3 hz3 hYa hXa hlz hc
  have hdb : dg ≤ 1000000000 := by have := HDG.out; omega
  go_loopw [36] (fun i wr => ∃ (k t : Nat) (Q L : List Nat), Hid (k + t = dg) ∧ Hid (Q.length = dg) ∧ Small Q ∧ Hid (L.length = dg + len m) ∧ Small L ∧ Hid (val (Q.drop t) * (m * 2 ^ s) * 4294967296 ^ t + val L = n * 2 ^ s) ∧ Hid (val (L.drop t) < m * 2 ^ s) ∧ Hid (Arr wr w.heap.size 122 (u32s Y')) ∧ Hid (Arr wr w1.heap.size 122 (u32s L)) ∧ Hid (Arr wr w2.heap.size 122 (u32s Q)) ∧ Ext w wr ∧ i = .int .i64 k) (fun i _ => dg - (intOf i).toNat)
  case atStart =>
    refine ⟨0, dg, List.replicate dg 0, X0, (show _ = _ by omega), (show _ = _ by simp), Small.replicate _, (show _ = _ by have := HX0.out; have := HDG.out; omega), sX0, ?_, HST, A1, A2, A3, hE, rfl⟩
    show _ = _
    rw [List.drop_of_length_le (by simp), HXV.out]; simp [val]
  case round =>
    obtain ⟨k, t, Q, L, hkt, hQ, sQ, hL, sL, hval, hlt, b1, b2, b3, hext, rfl⟩ := hrel
    by_cases h0 : k < dg
    · have hj : ∃ j, t = j + 1 := ⟨t - 1, by have := hkt.out; omega⟩
      obtain ⟨j, rfl⟩ := hj
      have hkj : (dg : Int) - 1 - (k : Int) = (j : Int) := by have := hkt.out; omega
      have hjb : j < dg := by have := hkt.out; omega
      obtain ⟨w1e, w2e, w3e, w4e, w5e⟩ := long_window (L := L) (j := j) (K := len m) (V := m * 2 ^ s) sL (by rw [hL.out]; omega) HNT.out hlt.out
      have hAl : (L.take j).length = j := by rw [List.length_take, hL.out]; omega
      have b2' : Arr wr w1.heap.size 122 (u32s (L.take j ++ (L.drop j).take (len m + 1) ++ L.drop (j + len m + 1))) := by rw [← w1e]; exact b2.out
      have hdig := nat_nextDigit wr w1.heap.size w.heap.size (dg + len m - j) (len m + 1) (len m) (L.take j) ((L.drop j).take (len m + 1)) (L.drop (j + len m + 1)) (Y'.take (len m)) (by omega) b2' w2e w3e (by omega) (by omega)
        ((b1.out.limbs sY' (by rw [HY'.out]; omega)).take (len m) (by rw [HY'.out]; omega) |> fun h => by rw [HY'.out] at h; exact h) HYL.out h2 hYtop (by rw [HYT.out]; exact w4e)
      rw [hAl, HYT.out] at hdig
      have hqb : val ((L.drop j).take (len m + 1)) / (m * 2 ^ s) < 4294967296 := by
        rw [Nat.div_lt_iff_lt_mul (by omega), Nat.mul_comm]; exact w4e
      have hVp : 0 < m * 2 ^ s := by omega
      have hstep := fun r (hr : r.length = len m + 1) hrv => long_step (L := L) (r := r) (Q := Q) (j := j) (K := len m) (V := m * 2 ^ s) (N := n * 2 ^ s) (by rw [hL.out]; omega) w1e w2e w5e hr hrv (by rw [hQ.out]; omega) hval.out
      have HS := Lib.hid hstep; have HD := Lib.hid hdig; have HW1 := Lib.hid w1e; have HAL := Lib.hid hAl
      clear hstep hdig w1e w2e w3e w4e w5e hAl b2'
      have hst3 : wr.cell? ⟨w2.heap.size, j, none⟩ = some (.int .u32 (limb Q j : Nat)) := by rw [b3.out.cell, u32s_get _ _ (by rw [hQ.out]; omega)]
      go_wp2_with fail
      rw [show j + len m + 1 - j = len m + 1 from by omega]
      (with_reducible refine HD.out.mono ?_)
      rintro e w5 ⟨r, rfl, hr, sr, hrv, harr, htch⟩
      have hs5 : w5.cell? ⟨w2.heap.size, j, none⟩ = some (.int .u32 (limb Q j : Nat)) := by rw [cell_touch htch (p := ⟨w2.heap.size, j, none⟩) (by simp only; omega)]; exact hst3
      have c1 := b1.out.touch1 htch (by omega)
      have c3 := b3.out.touch1 htch (by omega)
      have hf5 := c3.frozen j
      obtain ⟨k1, k2⟩ := HS.out r hr hrv
      have K1 := Lib.hid k1; have K2 := Lib.hid k2; have C1 := Lib.hid c1; have HR := Lib.hid hr; have HRV := Lib.hid hrv
      have C3 := Lib.hid (fun v hv => arr_set0 (i := j) c3 (val ((L.drop j).take (len m + 1)) / (m * 2 ^ s)) v hv)
      have HARR := Lib.hid harr
      have hx5 := Touch.ext1 hext htch hx1.size
      clear k1 k2 c1 c3 hst3 hr hrv harr HD HS
      go_wp2_with fail
      refine ⟨⟨k + 1, j, Q.set j (val ((L.drop j).take (len m + 1)) / (m * 2 ^ s)), L.take j ++ r ++ L.drop (j + len m + 1), (show _ = _ by have := hkt.out; omega), (show _ = _ by simp [hQ.out]), sQ.set _ _ hqb, ?_, ((sL.take j).append sr).append (sL.drop _), K1, ?_, (show Arr _ _ _ _ from C1.out.other _ _ (by simp only; omega)), (show Arr _ _ _ _ from HARR.out.other _ _ (by simp only; omega)), C3.out _ rfl, hx5.setCell (by simp only; omega) _, by go_num⟩, ?_⟩
      · show _ = _
        rw [List.length_append, List.length_append, HAL.out, HR.out, List.length_drop, hL.out]; omega
      · show _ < _
        rw [K2.out, HRV.out]; exact Nat.mod_lt _ hVp
      · simp [intOf]; omega
    · obtain rfl : k = dg := by have := hkt.out; omega
      obtain rfl : t = 0 := by have := hkt.out; omega
      have hv1 := hval.out
      rw [List.drop_zero, Nat.pow_zero, Nat.mul_one] at hv1
      have hl1 := hlt.out
      rw [List.drop_zero] at hl1
      obtain ⟨q1, q2⟩ := long_end hv1 rfl hl1 (len_pos.1 (by omega))
      have hLk : val (L.take (len m)) = val L := val_take_of_le sL (by rw [hL.out]; omega) (len_le.2 (Nat.lt_trans hl1 HNT.out))
      have rawR : Raw wr (some ⟨w1.heap.size, 0, none⟩) (len m) (k + len m) (n % m * 2 ^ s) := by
        have h3 := (b2.out.limbs sL (by rw [hL.out]; omega)).take (len m) (by rw [hL.out]; omega)
        rw [hL.out] at h3
        exact ⟨L.take (len m), by rw [List.length_take, hL.out]; omega, by rw [hLk, q2], h3⟩
      have rawQ : Raw wr (some ⟨w2.heap.size, 0, none⟩) k k (n / m) := by
        have h3 := b3.out.limbs sQ (by rw [hQ.out]; omega)
        rw [hQ.out] at h3
        exact ⟨Q, hQ.out, q1, h3⟩
      have RR := Lib.hid rawR; have RQ := Lib.hid rawQ
      clear hv1 hl1 q1 q2 hLk rawR rawQ
      go_wp2_with fail
      refine (nat_ShiftRight _ _ _ _ _ _ RR.out z1).mono ?_
      rintro e w6 ⟨a6, c6, rfl, hr6, hf6, hx6⟩
      rw [Nat.mul_div_cancel _ (Nat.two_pow_pos s)] at hr6 ⊢
      go_wp2_with fail
      refine (nat_cut _ _ _ _ _ (RQ.out.ext hx6)).mono ?_
      rintro e w7 ⟨rfl, rfl⟩
      go_wp2_with fail
      go_ret2
      exact ⟨_, _, a6, c6, rfl, (RQ.out.ext hx6).cut, Fr.some (by omega), hr6, hf6.mono hext.size, hext.trans hx6⟩
end Go.Proofs.YtgihpfkjpfanmaaGreat

/- natural.DivMod. -/
namespace Go.Proofs.YtgihpfkjpfanmaaGreat
open Go.RowKit

theorem nat_DivMod_zero (w : World) (a b : Option Addr) (k k' c c' n : Nat) (ha : Raw w a k c n) (hb : Raw w b k' c' 0) :
    Calls Tryz.prog 220 #[.slice a k c, .slice b k' c'] w fun e w' => e = .returned (.tuple #[.slice none 0 0, .slice none 0 0, .bool false]) ∧ w = w' := by
  go_enter Tryz.func220, Tryz.ntmps220
  go_wp2_with fail
  refine (nat_cut _ _ _ _ _ ha).mono ?_
  rintro e w' ⟨rfl, rfl⟩
  go_wp2_with fail
  refine (nat_cut _ _ _ _ _ hb).mono ?_
  rintro e w' ⟨rfl, rfl⟩
  rw [len_zero]
  go_wp2
  go_ret3
  exact ⟨rfl, rfl⟩

set_option maxHeartbeats 1000000 in
set_option maxRecDepth 100000 in
theorem nat_DivMod (w : World) (a b : Option Addr) (k k' c c' n m : Nat) (ha : Raw w a k c n) (hb : Raw w b k' c' m) (hm : 0 < m) (hs : len n < 1000000000) :
    Calls Tryz.prog 220 #[.slice a k c, .slice b k' c'] w (NewNatsOk (n / m) (n % m) w) := by
  have ha' := ha.cut
  have hb' := hb.cut
  have pm := len_pos.2 hm
  have hm' : (((len m : Nat) : Int) == 0) = false := by rw [beq_eq_false_iff_ne]; omega
  go_enter Tryz.func220, Tryz.ntmps220
  go_wp2_with fail
  refine (nat_cut _ _ _ _ _ ha).mono ?_
  rintro e w' ⟨rfl, rfl⟩
  go_wp2_with fail
  refine (nat_cut _ _ _ _ _ hb).mono ?_
  rintro e w' ⟨rfl, rfl⟩
  go_wp2_with fail
  refine (nat_Compare _ _ _ _ _ _ _ _ _ ha' hb').mono ?_
  rintro e w0 ⟨rfl, hq0⟩
  have ha0 := ha'.ext hq0.ext
  have hb0 := hb'.ext hq0.ext
  by_cases hlt : n < m
  · have hcmp : cmpN n m = -1 := by unfold cmpN; rw [if_pos hlt]
    rw [hcmp]; clear hcmp
    go_wp2_with fail
    refine (nat_Trim _ _ _ _ _ ha0).mono ?_
    rintro e w1 ⟨a1, c1, rfl, hr1, hf1, hx1⟩
    go_wp2
    go_ret3
    rw [Nat.div_eq_of_lt hlt, Nat.mod_eq_of_lt hlt]
    exact ⟨none, 0, a1, c1, rfl, Raw.nil _, Fr.none _, hr1, hf1.mono hq0.ext.size, hq0.ext.trans hx1⟩
  · have hcmp : 0 ≤ cmpN n m := by unfold cmpN; rw [if_neg (by omega)]; split <;> decide
    by_cases h2 : len n ≤ 2
    · have hm2 : len m ≤ 2 := Nat.le_trans (len_mono (by omega)) h2
      have hn64 := len_le_two.1 h2
      have hm64 := len_le_two.1 hm2
      have hq : n / m ≤ n := Nat.div_le_self _ _
      have hr : n % m < m := Nat.mod_lt _ hm
      go_wp2_with fail
      refine (nat_word _ _ _ _ _ ha0 h2).mono ?_
      rintro e w' ⟨rfl, rfl⟩
      go_wp2_with fail
      refine (nat_word _ _ _ _ _ hb0 hm2).mono ?_
      rintro e w' ⟨rfl, rfl⟩
      have hmi : ((m : Nat) : Int) ≠ 0 := by omega
      have hmb : (((m : Nat) : Int) == 0) = false := by rw [beq_eq_false_iff_ne]; omega
      have h1m : (1 : Int) ≤ (m : Int) := by omega
      have hqb : n / m < 18446744073709551616 := Nat.lt_of_le_of_lt hq hn64
      have hrb : n % m < 18446744073709551616 := Nat.lt_trans hr hm64
      have e1 : IntKind.u64.wrap ((n : Int) / (m : Int)) = ((n / m : Nat) : Int) := by
        rw [IntKind.wrap_u64, ← Int.natCast_ediv]
        generalize n / m = z at *
        omega
      have e2 : (n : Int).tmod (m : Int) = ((n % m : Nat) : Int) := by
        rw [Int.tmod_eq_emod_of_nonneg (by omega), Int.natCast_emod]
      generalize hqq : n / m = qq at *
      generalize hrr : n % m = rr at *
      have HQ := Lib.hid hqq; have HR := Lib.hid hrr; clear hqq hrr
      have tok1 : True := trivial
      go_wp2_with fail
      go_region_with (first
        | (go_at_call 211; have _t := tok1; refine (nat_FromUint64 _ _ (by assumption)).mono ?_; rintro e w1 ⟨a1, c1, rfl, hr1, hf1, hx1⟩; clear tok1 _t)
        | (go_at_call 211; refine (nat_FromUint64 _ _ (by assumption)).mono ?_; rintro e w2 ⟨a2, c2, rfl, hr2, hf2, hx2⟩))
      all_goals go_wp2
      all_goals go_ret3
      all_goals exact ⟨a1, c1, a2, c2, rfl, hr1.ext hx2, hf1.mono hq0.ext.size, hr2, hf2.mono (Nat.le_trans hq0.ext.size hx1.size), (hq0.ext.drew.trans hx1).trans hx2⟩
    · have h2' : ¬ len n ≤ 2 := h2
      by_cases h1 : len m = 1
      · have h1' : (((len m : Nat) : Int) == 1) = true := by simp [h1]
        have hml := len_le_one.1 (Nat.le_of_eq h1)
        obtain ⟨l, hl, hv, hB⟩ := hb0
        obtain ⟨pb, ob, rfl⟩ := hB.at (by omega)
        have hc := hB.cellAt 0 (by omega)
        have e0 : limb l 0 = m := by
          rw [h1] at hl
          match l, hl with
          | [x], _ => simpa [limb, val] using hv
        rw [e0, Nat.add_zero] at hc
        have HL := Lib.hid hl; have HV := Lib.hid hv; have H1 := Lib.hid h1; have E0 := Lib.hid e0; clear hl hv h1 e0
        have h0m : (0 : Int) < (len m : Int) := by omega
        go_wp2_with fail
        refine (nat_divideByLimb _ _ _ _ _ ha0 hm hml).mono ?_
        rintro e w1 ⟨a1, c1, a2, c2, rfl, hr1, hf1, hr2, hf2, hx1⟩
        go_wp2
        go_ret3
        exact ⟨a1, c1, a2, c2, rfl, hr1, hf1.mono hq0.ext.size, hr2, hf2.mono hq0.ext.size, hq0.ext.trans hx1⟩
      · have h1' : (((len m : Nat) : Int) == 1) = false := by rw [beq_eq_false_iff_ne]; omega
        go_wp2_with fail
        refine (nat_divideLong _ _ _ _ _ _ _ ha0 hb0 (by omega) (by omega) hs).mono ?_
        rintro e w1 ⟨a1, c1, a2, c2, rfl, hr1, hf1, hr2, hf2, hx1⟩
        go_wp2
        go_ret3
        exact ⟨a1, c1, a2, c2, rfl, hr1, hf1.mono hq0.ext.size, hr2, hf2.mono hq0.ext.size, hq0.ext.trans hx1⟩
end Go.Proofs.YtgihpfkjpfanmaaGreat

/- Blocks that a function lays for its parameters and results, one behind the other. -/
namespace Go.Proofs.YtgihpfkjpfanmaaGreat
open Go.RowKit

theorem Touch.one {lo hi b : Nat} (w : World) (h1 : lo ≤ b) (h2 : b < hi) (i : Nat) (v : Value) : Touch lo hi w (w.setCell ⟨b, i, none⟩ v) :=
  (Touch.refl _ _ _).setCell h1 h2 _
theorem Touch.two {lo hi b : Nat} (w : World) (h1 : lo ≤ b) (h2 : b < hi) (v0 v1 : Value) : Touch lo hi w ((w.setCell ⟨b, 0, none⟩ v0).setCell ⟨b, 1, none⟩ v1) :=
  ((Touch.refl _ _ _).setCell h1 h2 _).setCell h1 h2 _
theorem Touch.three {lo hi b : Nat} (w : World) (h1 : lo ≤ b) (h2 : b < hi) (v0 v1 v2 : Value) : Touch lo hi w (((w.setCell ⟨b, 0, none⟩ v0).setCell ⟨b, 1, none⟩ v1).setCell ⟨b, 2, none⟩ v2) :=
  (((Touch.refl _ _ _).setCell h1 h2 _).setCell h1 h2 _).setCell h1 h2 _
theorem Touch.trans {lo hi : Nat} {a b c : World} (h : Touch lo hi a b) (k : Touch lo hi b c) : Touch lo hi a c :=
  ⟨k.os.trans h.os, k.tape.trans h.tape, k.output.trans h.output, Nat.le_trans h.drawn k.drawn, k.size.trans h.size, fun i hi => (k.block i hi).trans (h.block i hi)⟩

theorem boxes1 (w : World) (T0 : TypeId) (l0 : List Value) : ∃ W : World, W = (w.alloc (.cells l0.toArray T0)) ∧ Ext w W ∧ Hid (W.heap.size = w.heap.size + 1) ∧ Arr W (w.heap.size) T0 l0 := by
  exact ⟨_, rfl, (Ext.refl _).alloc _, (show _ = _ by simp), Arr.alloc _ _ _⟩

theorem boxes2 (w : World) (T0 : TypeId) (l0 : List Value) (T1 : TypeId) (l1 : List Value) : ∃ W : World, W = ((w.alloc (.cells l0.toArray T0)).alloc (.cells l1.toArray T1)) ∧ Ext w W ∧ Hid (W.heap.size = w.heap.size + 2) ∧ Arr W (w.heap.size) T0 l0 ∧ Arr W (w.heap.size + 1) T1 l1 := by
  obtain ⟨V, hV, x0, z0, a0⟩ := boxes1 w T0 l0
  refine ⟨_, rfl, ?_⟩
  rw [← hV]
  have z1 := z0.out
  have b := Arr.alloc V T1 l1
  rw [z1] at b
  exact ⟨x0.alloc _, (show _ = _ by simp [z1]), a0.ext ((Ext.refl _).alloc _), b⟩

theorem boxes3 (w : World) (T0 : TypeId) (l0 : List Value) (T1 : TypeId) (l1 : List Value) (T2 : TypeId) (l2 : List Value) : ∃ W : World, W = (((w.alloc (.cells l0.toArray T0)).alloc (.cells l1.toArray T1)).alloc (.cells l2.toArray T2)) ∧ Ext w W ∧ Hid (W.heap.size = w.heap.size + 3) ∧ Arr W (w.heap.size) T0 l0 ∧ Arr W (w.heap.size + 1) T1 l1 ∧ Arr W (w.heap.size + 2) T2 l2 := by
  obtain ⟨V, hV, x0, z0, a0, a1⟩ := boxes2 w T0 l0 T1 l1
  refine ⟨_, rfl, ?_⟩
  rw [← hV]
  have z1 := z0.out
  have b := Arr.alloc V T2 l2
  rw [z1] at b
  exact ⟨x0.alloc _, (show _ = _ by simp [z1]), a0.ext ((Ext.refl _).alloc _), a1.ext ((Ext.refl _).alloc _), b⟩

theorem boxes4 (w : World) (T0 : TypeId) (l0 : List Value) (T1 : TypeId) (l1 : List Value) (T2 : TypeId) (l2 : List Value) (T3 : TypeId) (l3 : List Value) : ∃ W : World, W = ((((w.alloc (.cells l0.toArray T0)).alloc (.cells l1.toArray T1)).alloc (.cells l2.toArray T2)).alloc (.cells l3.toArray T3)) ∧ Ext w W ∧ Hid (W.heap.size = w.heap.size + 4) ∧ Arr W (w.heap.size) T0 l0 ∧ Arr W (w.heap.size + 1) T1 l1 ∧ Arr W (w.heap.size + 2) T2 l2 ∧ Arr W (w.heap.size + 3) T3 l3 := by
  obtain ⟨V, hV, x0, z0, a0, a1, a2⟩ := boxes3 w T0 l0 T1 l1 T2 l2
  refine ⟨_, rfl, ?_⟩
  rw [← hV]
  have z1 := z0.out
  have b := Arr.alloc V T3 l3
  rw [z1] at b
  exact ⟨x0.alloc _, (show _ = _ by simp [z1]), a0.ext ((Ext.refl _).alloc _), a1.ext ((Ext.refl _).alloc _), a2.ext ((Ext.refl _).alloc _), b⟩

theorem boxes5 (w : World) (T0 : TypeId) (l0 : List Value) (T1 : TypeId) (l1 : List Value) (T2 : TypeId) (l2 : List Value) (T3 : TypeId) (l3 : List Value) (T4 : TypeId) (l4 : List Value) : ∃ W : World, W = (((((w.alloc (.cells l0.toArray T0)).alloc (.cells l1.toArray T1)).alloc (.cells l2.toArray T2)).alloc (.cells l3.toArray T3)).alloc (.cells l4.toArray T4)) ∧ Ext w W ∧ Hid (W.heap.size = w.heap.size + 5) ∧ Arr W (w.heap.size) T0 l0 ∧ Arr W (w.heap.size + 1) T1 l1 ∧ Arr W (w.heap.size + 2) T2 l2 ∧ Arr W (w.heap.size + 3) T3 l3 ∧ Arr W (w.heap.size + 4) T4 l4 := by
  obtain ⟨V, hV, x0, z0, a0, a1, a2, a3⟩ := boxes4 w T0 l0 T1 l1 T2 l2 T3 l3
  refine ⟨_, rfl, ?_⟩
  rw [← hV]
  have z1 := z0.out
  have b := Arr.alloc V T4 l4
  rw [z1] at b
  exact ⟨x0.alloc _, (show _ = _ by simp [z1]), a0.ext ((Ext.refl _).alloc _), a1.ext ((Ext.refl _).alloc _), a2.ext ((Ext.refl _).alloc _), a3.ext ((Ext.refl _).alloc _), b⟩

theorem boxes6 (w : World) (T0 : TypeId) (l0 : List Value) (T1 : TypeId) (l1 : List Value) (T2 : TypeId) (l2 : List Value) (T3 : TypeId) (l3 : List Value) (T4 : TypeId) (l4 : List Value) (T5 : TypeId) (l5 : List Value) : ∃ W : World, W = ((((((w.alloc (.cells l0.toArray T0)).alloc (.cells l1.toArray T1)).alloc (.cells l2.toArray T2)).alloc (.cells l3.toArray T3)).alloc (.cells l4.toArray T4)).alloc (.cells l5.toArray T5)) ∧ Ext w W ∧ Hid (W.heap.size = w.heap.size + 6) ∧ Arr W (w.heap.size) T0 l0 ∧ Arr W (w.heap.size + 1) T1 l1 ∧ Arr W (w.heap.size + 2) T2 l2 ∧ Arr W (w.heap.size + 3) T3 l3 ∧ Arr W (w.heap.size + 4) T4 l4 ∧ Arr W (w.heap.size + 5) T5 l5 := by
  obtain ⟨V, hV, x0, z0, a0, a1, a2, a3, a4⟩ := boxes5 w T0 l0 T1 l1 T2 l2 T3 l3 T4 l4
  refine ⟨_, rfl, ?_⟩
  rw [← hV]
  have z1 := z0.out
  have b := Arr.alloc V T5 l5
  rw [z1] at b
  exact ⟨x0.alloc _, (show _ = _ by simp [z1]), a0.ext ((Ext.refl _).alloc _), a1.ext ((Ext.refl _).alloc _), a2.ext ((Ext.refl _).alloc _), a3.ext ((Ext.refl _).alloc _), a4.ext ((Ext.refl _).alloc _), b⟩

theorem boxes7 (w : World) (T0 : TypeId) (l0 : List Value) (T1 : TypeId) (l1 : List Value) (T2 : TypeId) (l2 : List Value) (T3 : TypeId) (l3 : List Value) (T4 : TypeId) (l4 : List Value) (T5 : TypeId) (l5 : List Value) (T6 : TypeId) (l6 : List Value) : ∃ W : World, W = (((((((w.alloc (.cells l0.toArray T0)).alloc (.cells l1.toArray T1)).alloc (.cells l2.toArray T2)).alloc (.cells l3.toArray T3)).alloc (.cells l4.toArray T4)).alloc (.cells l5.toArray T5)).alloc (.cells l6.toArray T6)) ∧ Ext w W ∧ Hid (W.heap.size = w.heap.size + 7) ∧ Arr W (w.heap.size) T0 l0 ∧ Arr W (w.heap.size + 1) T1 l1 ∧ Arr W (w.heap.size + 2) T2 l2 ∧ Arr W (w.heap.size + 3) T3 l3 ∧ Arr W (w.heap.size + 4) T4 l4 ∧ Arr W (w.heap.size + 5) T5 l5 ∧ Arr W (w.heap.size + 6) T6 l6 := by
  obtain ⟨V, hV, x0, z0, a0, a1, a2, a3, a4, a5⟩ := boxes6 w T0 l0 T1 l1 T2 l2 T3 l3 T4 l4 T5 l5
  refine ⟨_, rfl, ?_⟩
  rw [← hV]
  have z1 := z0.out
  have b := Arr.alloc V T6 l6
  rw [z1] at b
  exact ⟨x0.alloc _, (show _ = _ by simp [z1]), a0.ext ((Ext.refl _).alloc _), a1.ext ((Ext.refl _).alloc _), a2.ext ((Ext.refl _).alloc _), a3.ext ((Ext.refl _).alloc _), a4.ext ((Ext.refl _).alloc _), a5.ext ((Ext.refl _).alloc _), b⟩

end Go.Proofs.YtgihpfkjpfanmaaGreat

/- Contracts of the program's package integer. -/
namespace Go.Proofs.YtgihpfkjpfanmaaGreat
open Go.RowKit

/-- The integer of a sign and a magnitude. -/
def sgn (s : Bool) (n : Nat) : Int := if s then -(n : Int) else n
theorem sgn_natAbs (s : Bool) (n : Nat) : (sgn s n).natAbs = n := by unfold sgn; cases s <;> simp
theorem sgn_neg (s : Bool) (n : Nat) : decide (sgn s n < 0) = (s && decide (0 < n)) := by
  unfold sgn
  cases s
  · simp
  · simp
theorem sgn_false (n : Nat) : sgn false n = n := rfl
theorem sgn_true (n : Nat) : sgn true n = -(n : Int) := rfl
theorem sgn_zero (s : Bool) : sgn s 0 = 0 := by cases s <;> rfl
theorem sgn_not (s : Bool) (n : Nat) : sgn (!s) n = - sgn s n := by cases s <;> simp [sgn]

/-- A call returns a new integer z, canonical. -/
def NewInt (z : Int) (w : World) (e : Ending) (w' : World) : Prop := ∃ a c, e = .returned (.agg #[.bool (decide (z < 0)), .slice a (len z.natAbs) c]) ∧ Raw w' a (len z.natAbs) c z.natAbs ∧ Fr w.heap.size a ∧ Ext w w'

/-- integer.signed. -/
theorem int_signed (w : World) (s : Bool) (a : Option Addr) (k c : Nat) (hk : k ≤ 1099511627776) :
    Calls Tryz.prog 207 #[.bool s, .slice a k c] w fun e w' => e = .returned (.agg #[.bool (s && decide (0 < k)), .slice a k c]) ∧ Ext w w' := by
  cases s
  · go_enter Tryz.func207, Tryz.ntmps207
    go_wp2
    exact bodyPost_ret (v := .agg #[.bool false, .slice a k c]) (by simp [results, Tryz.results207, go_sem]) rfl ⟨rfl, (Ext.refl _).alloc _⟩
  · by_cases h0 : 0 < k
    · have d0 : decide (0 < k) = true := by simp [h0]
      go_enter Tryz.func207, Tryz.ntmps207
      go_wp2
      exact bodyPost_ret (v := .agg #[.bool true, .slice a k c]) (by simp [results, Tryz.results207, go_sem]) rfl ⟨by simp [h0], (Ext.refl _).alloc _⟩
    · have d0 : decide (0 < k) = false := by simp [h0]
      go_enter Tryz.func207, Tryz.ntmps207
      go_wp2
      exact bodyPost_ret (v := .agg #[.bool false, .slice a k c]) (by simp [results, Tryz.results207, go_sem]) rfl ⟨by simp [h0], (Ext.refl _).alloc _⟩

/-- What signed makes of a new list of limbs. -/
theorem NewInt.of_signed {w w1 w2 : World} {s : Bool} {a : Option Addr} {c n : Nat} {e : Ending} (h : Raw w1 a (len n) c n) (hf : Fr w.heap.size a) (hx : Ext w w1)
    (he : e = .returned (.agg #[.bool (s && decide (0 < len n)), .slice a (len n) c]) ∧ Ext w1 w2) : NewInt (sgn s n) w e w2 := by
  obtain ⟨rfl, hx2⟩ := he
  refine ⟨a, c, ?_, ?_, hf, hx.trans hx2⟩
  · rw [sgn_natAbs, sgn_neg]; simp only [len_pos]
  · rw [sgn_natAbs]; exact h.ext hx2

theorem NewInt.touch {z : Int} {w W w2 w3 : World} {e : Ending} (h : NewInt z W e w2) (hW : Ext w W) (t : Touch w.heap.size W.heap.size w2 w3) : NewInt z w e w3 := by
  obtain ⟨a, c, he, hr, hf, hx⟩ := h
  exact ⟨a, c, he, hr.touch t hf.out, hf.mono hW.size, hW.touch hx t⟩

theorem sgn_mul (s t : Bool) (n m : Nat) : sgn (s != t) (n * m) = sgn s n * sgn t m := by
  cases s <;> cases t <;> simp [sgn, Int.neg_mul, Int.mul_neg]
theorem sgn_add (s : Bool) (n m : Nat) : sgn s (n + m) = sgn s n + sgn s m := by
  cases s <;> simp [sgn]; omega
theorem sgn_sub1 (s : Bool) (n m : Nat) (h : m ≤ n) : sgn s (n - m) = sgn s n + sgn (!s) m := by
  cases s <;> simp [sgn] <;> omega
theorem sgn_sub2 (s : Bool) (n m : Nat) (h : n ≤ m) : sgn (!s) (m - n) = sgn s n + sgn (!s) m := by
  cases s <;> simp [sgn] <;> omega

theorem wrap_neg (n : Nat) (h0 : 0 < n) (h : n ≤ 9223372036854775808) : IntKind.u64.wrap (-IntKind.u64.wrap (-(n : Int))) = (n : Int) := by
  rw [IntKind.wrap_u64, IntKind.wrap_u64]; omega

set_option maxHeartbeats 400000 in
/-- integer.FromInt. -/
theorem int_FromInt (w : World) (v : Int) (h1 : -9223372036854775808 ≤ v) (h2 : v ≤ 9223372036854775807) :
    Calls Tryz.prog 145 #[.int .i64 v] w (NewInt v w) := by
  by_cases h0 : v < 0
  · obtain ⟨n, rfl⟩ : ∃ n : Nat, v = -(n : Int) := ⟨v.natAbs, by omega⟩
    have e1 := wrap_neg n (by omega) (by omega)
    go_enter Tryz.func145, Tryz.ntmps145
    go_wp2_with fail
    obtain ⟨W, hW, x0, Z0, A0⟩ := boxes1 w 53 [.bool false, .slice none 0 0]
    rw [← hW]
    clear hW
    obtain ⟨k0_0, k0_1, f0_0, f0_1⟩ := box2 A0 (Ext.refl _)
    have z0 := (A0.ext (Ext.refl _)).lt
    refine (nat_FromUint64 _ _ (by omega)).mono ?_
    rintro e w1 ⟨a1, c1, rfl, hr1, hf1, hx1⟩
    obtain ⟨k0_0, k0_1, f0_0, f0_1⟩ := box2 A0 hx1
    have z0 := (A0.ext hx1).lt
    go_wp2_with fail
    refine (int_signed _ _ _ _ _ (by have := hr1.le; omega)).mono ?_
    rintro e w2 ⟨rfl, hx2⟩
    obtain ⟨k0_0, k0_1, f0_0, f0_1⟩ := box2 A0 (hx1.trans hx2)
    have z0 := (A0.ext (hx1.trans hx2)).lt
    have fin := NewInt.of_signed (s := true) hr1 hf1 hx1 ⟨rfl, hx2⟩
    go_wp2
    exact bodyPost_ret (by simp [results, Tryz.results145, go_sem, k0_0, k0_1]) rfl (NewInt.touch fin x0 (Touch.two _ (Nat.le_refl _) (by rw [Z0.out]; omega) _ _))
  · obtain ⟨n, rfl⟩ : ∃ n : Nat, v = (n : Int) := ⟨v.natAbs, by omega⟩
    have e1 : IntKind.u64.wrap (n : Int) = (n : Int) := by rw [IntKind.wrap_u64]; omega
    go_enter Tryz.func145, Tryz.ntmps145
    go_wp2_with fail
    obtain ⟨W, hW, x0, Z0, A0⟩ := boxes1 w 53 [.bool false, .slice none 0 0]
    rw [← hW]
    clear hW
    obtain ⟨k0_0, k0_1, f0_0, f0_1⟩ := box2 A0 (Ext.refl _)
    have z0 := (A0.ext (Ext.refl _)).lt
    refine (nat_FromUint64 _ _ (by omega)).mono ?_
    rintro e w1 ⟨a1, c1, rfl, hr1, hf1, hx1⟩
    obtain ⟨k0_0, k0_1, f0_0, f0_1⟩ := box2 A0 hx1
    have z0 := (A0.ext hx1).lt
    go_wp2_with fail
    refine (int_signed _ _ _ _ _ (by have := hr1.le; omega)).mono ?_
    rintro e w2 ⟨rfl, hx2⟩
    obtain ⟨k0_0, k0_1, f0_0, f0_1⟩ := box2 A0 (hx1.trans hx2)
    have z0 := (A0.ext (hx1.trans hx2)).lt
    have fin := NewInt.of_signed (s := false) hr1 hf1 hx1 ⟨rfl, hx2⟩
    go_wp2
    exact bodyPost_ret (by simp [results, Tryz.results145, go_sem, k0_0, k0_1]) rfl (NewInt.touch fin x0 (Touch.two _ (Nat.le_refl _) (by rw [Z0.out]; omega) _ _))

set_option maxHeartbeats 400000 in
/-- integer.Norm. -/
theorem int_Norm (w : World) (s : Bool) (a : Option Addr) (k c n : Nat) (h : Raw w a k c n) :
    Calls Tryz.prog 218 #[.agg #[.bool s, .slice a k c]] w (NewInt (sgn s n) w) := by
  go_enter Tryz.func218, Tryz.ntmps218
  go_wp2
  obtain ⟨W, hW, x0, Z0, A0, A1⟩ := boxes2 w 53 [.bool s, .slice a k c] 53 [.bool false, .slice none 0 0]
  rw [← hW]
  clear hW
  obtain ⟨k0_0, k0_1, f0_0, f0_1⟩ := box2 A0 (Ext.refl _)
  have z0 := (A0.ext (Ext.refl _)).lt
  obtain ⟨k1_0, k1_1, f1_0, f1_1⟩ := box2 A1 (Ext.refl _)
  have z1 := (A1.ext (Ext.refl _)).lt
  go_region_held3 (fun w' => w'.cell? ⟨w.heap.size, 0, none⟩ = some (.bool s) ∧ w'.cell? ⟨w.heap.size, 1, none⟩ = some (.slice a k c)) (first | exact ⟨k0_0, k0_1⟩ | (simp [go_sem, k0_0, k0_1])) (first
    | (go_at_call 212; refine (nat_Trim _ _ _ _ _ ((h.ext x0).ext (by exact (Ext.refl _).drew))).mono ?_; rintro e w1 ⟨a1, c1, rfl, hr1, hf1, hx1⟩; obtain ⟨k0_0, k0_1, f0_0, f0_1⟩ := box2 A0 (((Ext.refl _).drew).trans hx1); have z0 := (A0.ext (((Ext.refl _).drew).trans hx1)).lt; obtain ⟨k1_0, k1_1, f1_0, f1_1⟩ := box2 A1 (((Ext.refl _).drew).trans hx1); have z1 := (A1.ext (((Ext.refl _).drew).trans hx1)).lt)
    | (go_at_call 207; refine (int_signed _ _ _ _ _ (by have := hr1.le; omega)).mono ?_; rintro e w2 ⟨rfl, hx2⟩; obtain ⟨k0_0, k0_1, f0_0, f0_1⟩ := box2 A0 ((((Ext.refl _).drew).trans hx1).trans hx2); have z0 := (A0.ext ((((Ext.refl _).drew).trans hx1).trans hx2)).lt; obtain ⟨k1_0, k1_1, f1_0, f1_1⟩ := box2 A1 ((((Ext.refl _).drew).trans hx1).trans hx2); have z1 := (A1.ext ((((Ext.refl _).drew).trans hx1).trans hx2)).lt))
  have fin := NewInt.of_signed (s := s) hr1 hf1 hx1 ⟨rfl, hx2⟩
  go_wp2
  exact bodyPost_ret (by simp [results, Tryz.results218, go_sem, k1_0, k1_1]) rfl (NewInt.touch fin x0.drew (Touch.two _ (by omega) (by rw [World.drew, Z0.out]; omega) _ _))

set_option maxHeartbeats 400000 in
/-- integer.Neg. -/
theorem int_Neg (w : World) (s : Bool) (a : Option Addr) (k c n : Nat) (h : Raw w a k c n) :
    Calls Tryz.prog 147 #[.agg #[.bool s, .slice a k c]] w (NewInt (- sgn s n) w) := by
  rw [← sgn_not]
  go_enter Tryz.func147, Tryz.ntmps147
  go_wp2
  obtain ⟨W, hW, x0, Z0, A0, A1⟩ := boxes2 w 53 [.bool s, .slice a k c] 53 [.bool false, .slice none 0 0]
  rw [← hW]
  clear hW
  obtain ⟨k0_0, k0_1, f0_0, f0_1⟩ := box2 A0 (Ext.refl _)
  have z0 := (A0.ext (Ext.refl _)).lt
  obtain ⟨k1_0, k1_1, f1_0, f1_1⟩ := box2 A1 (Ext.refl _)
  have z1 := (A1.ext (Ext.refl _)).lt
  go_region_held3 (fun w' => w'.cell? ⟨w.heap.size, 0, none⟩ = some (.bool s) ∧ w'.cell? ⟨w.heap.size, 1, none⟩ = some (.slice a k c)) (first | exact ⟨k0_0, k0_1⟩ | (simp [go_sem, k0_0, k0_1])) (first
    | (go_at_call 212; refine (nat_Trim _ _ _ _ _ ((h.ext x0).ext (by exact (Ext.refl _).drew))).mono ?_; rintro e w1 ⟨a1, c1, rfl, hr1, hf1, hx1⟩; obtain ⟨k0_0, k0_1, f0_0, f0_1⟩ := box2 A0 (((Ext.refl _).drew).trans hx1); have z0 := (A0.ext (((Ext.refl _).drew).trans hx1)).lt; obtain ⟨k1_0, k1_1, f1_0, f1_1⟩ := box2 A1 (((Ext.refl _).drew).trans hx1); have z1 := (A1.ext (((Ext.refl _).drew).trans hx1)).lt)
    | (go_at_call 207; refine (int_signed _ _ _ _ _ (by have := hr1.le; omega)).mono ?_; rintro e w2 ⟨rfl, hx2⟩; obtain ⟨k0_0, k0_1, f0_0, f0_1⟩ := box2 A0 ((((Ext.refl _).drew).trans hx1).trans hx2); have z0 := (A0.ext ((((Ext.refl _).drew).trans hx1).trans hx2)).lt; obtain ⟨k1_0, k1_1, f1_0, f1_1⟩ := box2 A1 ((((Ext.refl _).drew).trans hx1).trans hx2); have z1 := (A1.ext ((((Ext.refl _).drew).trans hx1).trans hx2)).lt))
  have fin := NewInt.of_signed (s := !s) hr1 hf1 hx1 ⟨rfl, hx2⟩
  go_wp2
  exact bodyPost_ret (by simp [results, Tryz.results147, go_sem, k1_0, k1_1]) rfl (NewInt.touch fin x0.drew (Touch.two _ (by omega) (by rw [World.drew, Z0.out]; omega) _ _))

set_option maxHeartbeats 1000000 in
/-- integer.Mul. -/
theorem int_Mul (w : World) (s t : Bool) (a b : Option Addr) (k c k' c' n m : Nat) (h : Raw w a k c n) (h' : Raw w b k' c' m) (b1 : len n < 1000000000) (b2 : len m < 1000000000) :
    Calls Tryz.prog 134 #[.agg #[.bool s, .slice a k c], .agg #[.bool t, .slice b k' c']] w (NewInt (sgn s n * sgn t m) w) := by
  rw [← sgn_mul]
  go_enter Tryz.func134, Tryz.ntmps134
  go_wp2
  obtain ⟨W, hW, x0, Z0, A0, A1, A2⟩ := boxes3 w 53 [.bool s, .slice a k c] 53 [.bool t, .slice b k' c'] 53 [.bool false, .slice none 0 0]
  rw [← hW]
  clear hW
  obtain ⟨k0_0, k0_1, f0_0, f0_1⟩ := box2 A0 (Ext.refl _)
  have z0 := (A0.ext (Ext.refl _)).lt
  obtain ⟨k1_0, k1_1, f1_0, f1_1⟩ := box2 A1 (Ext.refl _)
  have z1 := (A1.ext (Ext.refl _)).lt
  obtain ⟨k2_0, k2_1, f2_0, f2_1⟩ := box2 A2 (Ext.refl _)
  have z2 := (A2.ext (Ext.refl _)).lt
  go_region_held3 (fun w' => w'.cell? ⟨w.heap.size, 0, none⟩ = some (.bool s) ∧ w'.cell? ⟨w.heap.size, 1, none⟩ = some (.slice a k c) ∧ w'.cell? ⟨w.heap.size + 1, 0, none⟩ = some (.bool t) ∧ w'.cell? ⟨w.heap.size + 1, 1, none⟩ = some (.slice b k' c')) (first | exact ⟨k0_0, k0_1, k1_0, k1_1⟩ | (simp [go_sem, k0_0, k0_1, k1_0, k1_1])) (first
    | (go_at_call 157; refine (nat_Mul _ _ _ _ _ _ _ _ _ ((h.ext x0).ext (by exact (Ext.refl _).drew)) ((h'.ext x0).ext (by exact (Ext.refl _).drew)) b1 b2).mono ?_; rintro e w1 ⟨a1, c1, rfl, hr1, hf1, hx1⟩; obtain ⟨k0_0, k0_1, f0_0, f0_1⟩ := box2 A0 (((Ext.refl _).drew).trans hx1); have z0 := (A0.ext (((Ext.refl _).drew).trans hx1)).lt; obtain ⟨k1_0, k1_1, f1_0, f1_1⟩ := box2 A1 (((Ext.refl _).drew).trans hx1); have z1 := (A1.ext (((Ext.refl _).drew).trans hx1)).lt; obtain ⟨k2_0, k2_1, f2_0, f2_1⟩ := box2 A2 (((Ext.refl _).drew).trans hx1); have z2 := (A2.ext (((Ext.refl _).drew).trans hx1)).lt)
    | (go_at_call 207; refine (int_signed _ _ _ _ _ (by have := hr1.le; omega)).mono ?_; rintro e w2 ⟨rfl, hx2⟩; obtain ⟨k0_0, k0_1, f0_0, f0_1⟩ := box2 A0 ((((Ext.refl _).drew).trans hx1).trans hx2); have z0 := (A0.ext ((((Ext.refl _).drew).trans hx1).trans hx2)).lt; obtain ⟨k1_0, k1_1, f1_0, f1_1⟩ := box2 A1 ((((Ext.refl _).drew).trans hx1).trans hx2); have z1 := (A1.ext ((((Ext.refl _).drew).trans hx1).trans hx2)).lt; obtain ⟨k2_0, k2_1, f2_0, f2_1⟩ := box2 A2 ((((Ext.refl _).drew).trans hx1).trans hx2); have z2 := (A2.ext ((((Ext.refl _).drew).trans hx1).trans hx2)).lt))
  have fin := NewInt.of_signed (s := s != t) hr1 hf1 hx1 ⟨rfl, hx2⟩
  go_wp2
  exact bodyPost_ret (by simp [results, Tryz.results134, go_sem, k2_0, k2_1]; cases s <;> cases t <;> rfl) rfl (NewInt.touch fin x0.drew (Touch.two _ (by omega) (by rw [World.drew, Z0.out]; omega) _ _))

set_option maxHeartbeats 1000000 in
/-- integer.Add, equal signs. -/
theorem int_Add_same (w : World) (s : Bool) (a b : Option Addr) (k c k' c' n m : Nat) (h : Raw w a k c n) (h' : Raw w b k' c' m) (b1 : len n < 1000000000) (b2 : len m < 1000000000) :
    Calls Tryz.prog 208 #[.agg #[.bool s, .slice a k c], .agg #[.bool s, .slice b k' c']] w (NewInt (sgn s n + sgn s m) w) := by
  rw [← sgn_add]
  go_enter Tryz.func208, Tryz.ntmps208
  go_wp2
  obtain ⟨W, hW, x0, Z0, A0, A1, A2⟩ := boxes3 w 53 [.bool s, .slice a k c] 53 [.bool s, .slice b k' c'] 53 [.bool false, .slice none 0 0]
  rw [← hW]
  clear hW
  obtain ⟨k0_0, k0_1, f0_0, f0_1⟩ := box2 A0 (Ext.refl _)
  have z0 := (A0.ext (Ext.refl _)).lt
  obtain ⟨k1_0, k1_1, f1_0, f1_1⟩ := box2 A1 (Ext.refl _)
  have z1 := (A1.ext (Ext.refl _)).lt
  obtain ⟨k2_0, k2_1, f2_0, f2_1⟩ := box2 A2 (Ext.refl _)
  have z2 := (A2.ext (Ext.refl _)).lt
  go_region_held3 (fun w' => w'.cell? ⟨w.heap.size, 0, none⟩ = some (.bool s) ∧ w'.cell? ⟨w.heap.size, 1, none⟩ = some (.slice a k c) ∧ w'.cell? ⟨w.heap.size + 1, 0, none⟩ = some (.bool s) ∧ w'.cell? ⟨w.heap.size + 1, 1, none⟩ = some (.slice b k' c')) (first | exact ⟨k0_0, k0_1, k1_0, k1_1⟩ | (simp [go_sem, k0_0, k0_1, k1_0, k1_1])) (first
    | (go_at_call 228; refine (nat_Add _ _ _ _ _ _ _ _ _ ((h.ext x0).ext (by exact (Ext.refl _).drew)) ((h'.ext x0).ext (by exact (Ext.refl _).drew)) b1 b2).mono ?_; rintro e w1 ⟨a1, c1, rfl, hr1, hf1, hx1⟩; obtain ⟨k0_0, k0_1, f0_0, f0_1⟩ := box2 A0 (((Ext.refl _).drew).trans hx1); have z0 := (A0.ext (((Ext.refl _).drew).trans hx1)).lt; obtain ⟨k1_0, k1_1, f1_0, f1_1⟩ := box2 A1 (((Ext.refl _).drew).trans hx1); have z1 := (A1.ext (((Ext.refl _).drew).trans hx1)).lt; obtain ⟨k2_0, k2_1, f2_0, f2_1⟩ := box2 A2 (((Ext.refl _).drew).trans hx1); have z2 := (A2.ext (((Ext.refl _).drew).trans hx1)).lt)
    | (go_at_call 207; refine (int_signed _ _ _ _ _ (by have := hr1.le; omega)).mono ?_; rintro e w2 ⟨rfl, hx2⟩; obtain ⟨k0_0, k0_1, f0_0, f0_1⟩ := box2 A0 ((((Ext.refl _).drew).trans hx1).trans hx2); have z0 := (A0.ext ((((Ext.refl _).drew).trans hx1).trans hx2)).lt; obtain ⟨k1_0, k1_1, f1_0, f1_1⟩ := box2 A1 ((((Ext.refl _).drew).trans hx1).trans hx2); have z1 := (A1.ext ((((Ext.refl _).drew).trans hx1).trans hx2)).lt; obtain ⟨k2_0, k2_1, f2_0, f2_1⟩ := box2 A2 ((((Ext.refl _).drew).trans hx1).trans hx2); have z2 := (A2.ext ((((Ext.refl _).drew).trans hx1).trans hx2)).lt))
  have fin := NewInt.of_signed (s := s) hr1 hf1 hx1 ⟨rfl, hx2⟩
  go_wp2
  exact bodyPost_ret (by simp [results, Tryz.results208, go_sem, k2_0, k2_1]) rfl (NewInt.touch fin x0.drew (Touch.two _ (by omega) (by rw [World.drew, Z0.out]; omega) _ _))

set_option maxHeartbeats 1000000 in
/-- integer.Add, different signs. -/
theorem int_Add_other (w : World) (s : Bool) (a b : Option Addr) (k c k' c' n m : Nat) (h : Raw w a k c n) (h' : Raw w b k' c' m) :
    Calls Tryz.prog 208 #[.agg #[.bool s, .slice a k c], .agg #[.bool (!s), .slice b k' c']] w (NewInt (sgn s n + sgn (!s) m) w) := by
  have hne : (s == !s) = false := by cases s <;> rfl
  by_cases hle : m ≤ n
  · rw [← sgn_sub1 s n m hle]
    go_enter Tryz.func208, Tryz.ntmps208
    go_wp2_with fail
    obtain ⟨W, hW, x0, Z0, A0, A1, A2⟩ := boxes3 w 53 [.bool s, .slice a k c] 53 [.bool (!s), .slice b k' c'] 53 [.bool false, .slice none 0 0]
    rw [← hW]
    clear hW
    obtain ⟨k0_0, k0_1, f0_0, f0_1⟩ := box2 A0 (Ext.refl _)
    have z0 := (A0.ext (Ext.refl _)).lt
    obtain ⟨k1_0, k1_1, f1_0, f1_1⟩ := box2 A1 (Ext.refl _)
    have z1 := (A1.ext (Ext.refl _)).lt
    obtain ⟨k2_0, k2_1, f2_0, f2_1⟩ := box2 A2 (Ext.refl _)
    have z2 := (A2.ext (Ext.refl _)).lt
    refine (nat_Sub _ _ _ _ _ _ _ _ _ (h.ext x0) (h'.ext x0) hle).mono ?_
    rintro e w1 ⟨a1, c1, rfl, hr1, hf1, hx1⟩
    obtain ⟨k0_0, k0_1, f0_0, f0_1⟩ := box2 A0 hx1
    have z0 := (A0.ext hx1).lt
    obtain ⟨k1_0, k1_1, f1_0, f1_1⟩ := box2 A1 hx1
    have z1 := (A1.ext hx1).lt
    obtain ⟨k2_0, k2_1, f2_0, f2_1⟩ := box2 A2 hx1
    have z2 := (A2.ext hx1).lt
    go_wp2_with fail
    refine (int_signed _ _ _ _ _ (by have := hr1.le; omega)).mono ?_
    rintro e w2 ⟨rfl, hx2⟩
    obtain ⟨k0_0, k0_1, f0_0, f0_1⟩ := box2 A0 (hx1.trans hx2)
    have z0 := (A0.ext (hx1.trans hx2)).lt
    obtain ⟨k1_0, k1_1, f1_0, f1_1⟩ := box2 A1 (hx1.trans hx2)
    have z1 := (A1.ext (hx1.trans hx2)).lt
    obtain ⟨k2_0, k2_1, f2_0, f2_1⟩ := box2 A2 (hx1.trans hx2)
    have z2 := (A2.ext (hx1.trans hx2)).lt
    have fin := NewInt.of_signed (s := s) hr1 hf1 hx1 ⟨rfl, hx2⟩
    go_wp2
    exact bodyPost_ret (by simp [results, Tryz.results208, go_sem, k2_0, k2_1]) rfl (NewInt.touch fin x0 (Touch.two _ (by omega) (by rw [Z0.out]; omega) _ _))
  · rw [← sgn_sub2 s n m (by omega)]
    go_enter Tryz.func208, Tryz.ntmps208
    go_wp2_with fail
    obtain ⟨W, hW, x0, Z0, A0, A1, A2⟩ := boxes3 w 53 [.bool s, .slice a k c] 53 [.bool (!s), .slice b k' c'] 53 [.bool false, .slice none 0 0]
    rw [← hW]
    clear hW
    obtain ⟨k0_0, k0_1, f0_0, f0_1⟩ := box2 A0 (Ext.refl _)
    have z0 := (A0.ext (Ext.refl _)).lt
    obtain ⟨k1_0, k1_1, f1_0, f1_1⟩ := box2 A1 (Ext.refl _)
    have z1 := (A1.ext (Ext.refl _)).lt
    obtain ⟨k2_0, k2_1, f2_0, f2_1⟩ := box2 A2 (Ext.refl _)
    have z2 := (A2.ext (Ext.refl _)).lt
    refine (nat_Sub_no _ _ _ _ _ _ _ _ _ (h.ext x0) (h'.ext x0) (by omega)).mono ?_
    rintro e w1 ⟨rfl, hq1⟩
    obtain ⟨k0_0, k0_1, f0_0, f0_1⟩ := box2 A0 hq1.ext
    have z0 := (A0.ext hq1.ext).lt
    obtain ⟨k1_0, k1_1, f1_0, f1_1⟩ := box2 A1 hq1.ext
    have z1 := (A1.ext hq1.ext).lt
    obtain ⟨k2_0, k2_1, f2_0, f2_1⟩ := box2 A2 hq1.ext
    have z2 := (A2.ext hq1.ext).lt
    go_wp2_with fail
    refine (nat_Sub _ _ _ _ _ _ _ _ _ ((h'.ext x0).ext hq1.ext) ((h.ext x0).ext hq1.ext) (by omega)).mono ?_
    rintro e w2 ⟨a1, c1, rfl, hr1, hf1, hx1⟩
    obtain ⟨k0_0, k0_1, f0_0, f0_1⟩ := box2 A0 (hq1.ext.trans hx1)
    have z0 := (A0.ext (hq1.ext.trans hx1)).lt
    obtain ⟨k1_0, k1_1, f1_0, f1_1⟩ := box2 A1 (hq1.ext.trans hx1)
    have z1 := (A1.ext (hq1.ext.trans hx1)).lt
    obtain ⟨k2_0, k2_1, f2_0, f2_1⟩ := box2 A2 (hq1.ext.trans hx1)
    have z2 := (A2.ext (hq1.ext.trans hx1)).lt
    go_wp2_with fail
    refine (int_signed _ _ _ _ _ (by have := hr1.le; omega)).mono ?_
    rintro e w3 ⟨rfl, hx2⟩
    obtain ⟨k0_0, k0_1, f0_0, f0_1⟩ := box2 A0 ((hq1.ext.trans hx1).trans hx2)
    have z0 := (A0.ext ((hq1.ext.trans hx1).trans hx2)).lt
    obtain ⟨k1_0, k1_1, f1_0, f1_1⟩ := box2 A1 ((hq1.ext.trans hx1).trans hx2)
    have z1 := (A1.ext ((hq1.ext.trans hx1).trans hx2)).lt
    obtain ⟨k2_0, k2_1, f2_0, f2_1⟩ := box2 A2 ((hq1.ext.trans hx1).trans hx2)
    have z2 := (A2.ext ((hq1.ext.trans hx1).trans hx2)).lt
    have fin := NewInt.of_signed (s := !s) hr1 (hf1.mono hq1.ext.size) (hq1.ext.trans hx1) ⟨rfl, hx2⟩
    go_wp2
    exact bodyPost_ret (by simp [results, Tryz.results208, go_sem, k2_0, k2_1]) rfl (NewInt.touch fin x0 (Touch.two _ (by omega) (by rw [Z0.out]; omega) _ _))

/-- integer.Add. -/
theorem int_Add (w : World) (s t : Bool) (a b : Option Addr) (k c k' c' n m : Nat) (h : Raw w a k c n) (h' : Raw w b k' c' m) (b1 : len n < 1000000000) (b2 : len m < 1000000000) :
    Calls Tryz.prog 208 #[.agg #[.bool s, .slice a k c], .agg #[.bool t, .slice b k' c']] w (NewInt (sgn s n + sgn t m) w) := by
  by_cases e : t = s
  · subst e; exact int_Add_same w t a b k c k' c' n m h h' b1 b2
  · obtain rfl : t = !s := by cases s <;> cases t <;> simp_all
    exact int_Add_other w s a b k c k' c' n m h h'

/-- integer.Sign. -/
theorem int_Sign (w : World) (s : Bool) (a : Option Addr) (k c n : Nat) (h : Raw w a k c n) :
    Calls Tryz.prog 154 #[.agg #[.bool s, .slice a k c]] w fun e w' => e = .returned (.int .i64 (sgn s n).sign) ∧ Ext w w' := by
  have hb := boxes1 w 53 [.bool s, .slice a k c]
  by_cases h0 : n = 0
  · subst h0
    have hc : cmpN 0 0 = 0 := rfl
    go_enter Tryz.func154, Tryz.ntmps154
    go_wp2_with fail
    refine (nat_Compare _ _ _ _ _ _ _ _ _ (h.ext ((Ext.refl _).alloc _)) (Raw.nil _)).mono ?_
    rintro e w1 ⟨rfl, hq⟩
    rw [hc]
    go_wp2
    go_ret
    exact ⟨by rw [sgn_zero]; rfl, (((Ext.refl _).alloc _).trans hq.ext)⟩
  · have hc : cmpN n 0 = 1 := by unfold cmpN; rw [if_neg (by omega), if_neg h0]
    have HC := Lib.hid hc; clear hc
    cases s
    · have e1 : (sgn false n).sign = 1 := by rw [sgn_false, Int.sign_eq_one_of_pos (by omega)]
      have E1 := Lib.hid e1; clear e1
      go_enter Tryz.func154, Tryz.ntmps154
      go_wp2_with fail
      refine (nat_Compare _ _ _ _ _ _ _ _ _ (h.ext ((Ext.refl _).alloc _)) (Raw.nil _)).mono ?_
      rintro e w1 ⟨rfl, hq⟩
      rw [HC.out]
      obtain ⟨k0, k1, f0, f1⟩ := box2 (Arr.alloc w 53 [.bool false, .slice a k c]) hq.ext
      go_wp2
      go_ret
      exact ⟨ret_int E1.out.symm, (((Ext.refl _).alloc _).trans hq.ext)⟩
    · have e1 : (sgn true n).sign = -1 := by rw [sgn_true, Int.sign_eq_neg_one_of_neg (by omega)]
      have E1 := Lib.hid e1; clear e1
      go_enter Tryz.func154, Tryz.ntmps154
      go_wp2_with fail
      refine (nat_Compare _ _ _ _ _ _ _ _ _ (h.ext ((Ext.refl _).alloc _)) (Raw.nil _)).mono ?_
      rintro e w1 ⟨rfl, hq⟩
      rw [HC.out]
      obtain ⟨k0, k1, f0, f1⟩ := box2 (Arr.alloc w 53 [.bool true, .slice a k c]) hq.ext
      go_wp2
      go_ret
      exact ⟨ret_int E1.out.symm, (((Ext.refl _).alloc _).trans hq.ext)⟩

end Go.Proofs.YtgihpfkjpfanmaaGreat

/- Contracts of the program's package integer: Compare, Value, DivMod. -/
namespace Go.Proofs.YtgihpfkjpfanmaaGreat
open Go.RowKit

/-- -1, 0 or 1. -/
def cmpZ (x y : Int) : Int := if x < y then -1 else if x = y then 0 else 1
theorem cmpZ_lt {x y : Int} (h : x < y) : cmpZ x y = -1 := by unfold cmpZ; rw [if_pos h]
theorem cmpZ_gt {x y : Int} (h : y < x) : cmpZ x y = 1 := by unfold cmpZ; rw [if_neg (by omega), if_neg (by omega)]
theorem cmpZ_nat (n m : Nat) : cmpZ (n : Int) (m : Int) = cmpN n m := by
  unfold cmpZ cmpN; simp only [Int.ofNat_lt]
  by_cases h : n < m
  · simp [h]
  · by_cases h' : n = m
    · simp [h']
    · have : ¬ (n : Int) = m := by omega
      simp [h, h', this]
theorem cmpZ_neg (x y : Int) : cmpZ (-x) (-y) = cmpZ y x := by
  unfold cmpZ
  by_cases h : y < x
  · rw [if_pos (by omega), if_pos h]
  · rw [if_neg (by omega), if_neg h]
    by_cases h' : x = y
    · rw [if_pos (by omega), if_pos (by omega)]
    · rw [if_neg (by omega), if_neg (by omega)]

theorem sign_lt {x y : Int} (h : x.sign < y.sign) : x < y := by
  rcases Int.lt_trichotomy x 0 with h1 | h1 | h1
  · rcases Int.lt_trichotomy y 0 with h2 | h2 | h2
    · rw [Int.sign_eq_neg_one_of_neg h1, Int.sign_eq_neg_one_of_neg h2] at h; omega
    · omega
    · omega
  · subst h1
    rcases Int.lt_trichotomy y 0 with h2 | h2 | h2
    · rw [Int.sign_eq_neg_one_of_neg h2] at h; simp at h
    · subst h2; simp at h
    · exact h2
  · rcases Int.lt_trichotomy y 0 with h2 | h2 | h2
    · rw [Int.sign_eq_one_of_pos h1, Int.sign_eq_neg_one_of_neg h2] at h; omega
    · subst h2; rw [Int.sign_eq_one_of_pos h1] at h; simp at h
    · rw [Int.sign_eq_one_of_pos h1, Int.sign_eq_one_of_pos h2] at h; omega

set_option maxHeartbeats 1000000 in
/-- integer.Compare. -/
theorem int_Compare (w : World) (s t : Bool) (a b : Option Addr) (k c k' c' n m : Nat) (h : Raw w a k c n) (h' : Raw w b k' c' m) :
    Calls Tryz.prog 133 #[.agg #[.bool s, .slice a k c], .agg #[.bool t, .slice b k' c']] w fun e w' => e = .returned (.int .i64 (cmpZ (sgn s n) (sgn t m))) ∧ Ext w w' := by
  by_cases c1 : (sgn s n).sign < (sgn t m).sign
  · have e1 := cmpZ_lt (sign_lt c1)
    have E1 := Lib.hid e1; clear e1
    go_enter Tryz.func133, Tryz.ntmps133
    go_wp2
    obtain ⟨W, hW, x0, Z0, A0, A1⟩ := boxes2 w 53 [.bool s, .slice a k c] 53 [.bool t, .slice b k' c']
    rw [← hW]
    clear hW
    obtain ⟨k0_0, k0_1, f0_0, f0_1⟩ := box2 A0 (Ext.refl _)
    have z0 := (A0.ext (Ext.refl _)).lt
    obtain ⟨k1_0, k1_1, f1_0, f1_1⟩ := box2 A1 (Ext.refl _)
    have z1 := (A1.ext (Ext.refl _)).lt
    have tok1 : True := trivial
    go_region_held3 (fun w' => w'.cell? ⟨w.heap.size, 0, none⟩ = some (.bool s) ∧ w'.cell? ⟨w.heap.size, 1, none⟩ = some (.slice a k c) ∧ w'.cell? ⟨w.heap.size + 1, 0, none⟩ = some (.bool t) ∧ w'.cell? ⟨w.heap.size + 1, 1, none⟩ = some (.slice b k' c')) (first | exact ⟨k0_0, k0_1, k1_0, k1_1⟩ | (simp [go_sem, k0_0, k0_1, k1_0, k1_1])) (first
      | (go_at_call 154; have _t := tok1; refine (int_Sign _ _ _ _ _ _ ((h.ext x0).ext (by exact (Ext.refl _).drew))).mono ?_; rintro e w1 ⟨rfl, hx1⟩; clear tok1 _t; obtain ⟨k0_0, k0_1, f0_0, f0_1⟩ := box2 A0 (((Ext.refl _).drew).trans hx1); have z0 := (A0.ext (((Ext.refl _).drew).trans hx1)).lt; obtain ⟨k1_0, k1_1, f1_0, f1_1⟩ := box2 A1 (((Ext.refl _).drew).trans hx1); have z1 := (A1.ext (((Ext.refl _).drew).trans hx1)).lt)
      | (go_at_call 154; refine (int_Sign _ _ _ _ _ _ (((h'.ext x0).ext (by exact (Ext.refl _).drew)).ext hx1)).mono ?_; rintro e w2 ⟨rfl, hx2⟩; obtain ⟨k0_0, k0_1, f0_0, f0_1⟩ := box2 A0 ((((Ext.refl _).drew).trans hx1).trans hx2); have z0 := (A0.ext ((((Ext.refl _).drew).trans hx1).trans hx2)).lt; obtain ⟨k1_0, k1_1, f1_0, f1_1⟩ := box2 A1 ((((Ext.refl _).drew).trans hx1).trans hx2); have z1 := (A1.ext ((((Ext.refl _).drew).trans hx1).trans hx2)).lt))
    generalize (sgn s n).sign = p at *
    generalize (sgn t m).sign = q at *
    go_wp2
    go_ret
    exact ⟨ret_int E1.out.symm, (x0.drew.trans hx1).trans hx2⟩
  by_cases c2 : (sgn t m).sign < (sgn s n).sign
  · have e1 := cmpZ_gt (sign_lt c2)
    have E1 := Lib.hid e1; clear e1
    go_enter Tryz.func133, Tryz.ntmps133
    go_wp2
    obtain ⟨W, hW, x0, Z0, A0, A1⟩ := boxes2 w 53 [.bool s, .slice a k c] 53 [.bool t, .slice b k' c']
    rw [← hW]
    clear hW
    obtain ⟨k0_0, k0_1, f0_0, f0_1⟩ := box2 A0 (Ext.refl _)
    have z0 := (A0.ext (Ext.refl _)).lt
    obtain ⟨k1_0, k1_1, f1_0, f1_1⟩ := box2 A1 (Ext.refl _)
    have z1 := (A1.ext (Ext.refl _)).lt
    have tok1 : True := trivial
    go_region_held3 (fun w' => w'.cell? ⟨w.heap.size, 0, none⟩ = some (.bool s) ∧ w'.cell? ⟨w.heap.size, 1, none⟩ = some (.slice a k c) ∧ w'.cell? ⟨w.heap.size + 1, 0, none⟩ = some (.bool t) ∧ w'.cell? ⟨w.heap.size + 1, 1, none⟩ = some (.slice b k' c')) (first | exact ⟨k0_0, k0_1, k1_0, k1_1⟩ | (simp [go_sem, k0_0, k0_1, k1_0, k1_1])) (first
      | (go_at_call 154; have _t := tok1; refine (int_Sign _ _ _ _ _ _ ((h.ext x0).ext (by exact (Ext.refl _).drew))).mono ?_; rintro e w1 ⟨rfl, hx1⟩; clear tok1 _t; obtain ⟨k0_0, k0_1, f0_0, f0_1⟩ := box2 A0 (((Ext.refl _).drew).trans hx1); have z0 := (A0.ext (((Ext.refl _).drew).trans hx1)).lt; obtain ⟨k1_0, k1_1, f1_0, f1_1⟩ := box2 A1 (((Ext.refl _).drew).trans hx1); have z1 := (A1.ext (((Ext.refl _).drew).trans hx1)).lt)
      | (go_at_call 154; refine (int_Sign _ _ _ _ _ _ (((h'.ext x0).ext (by exact (Ext.refl _).drew)).ext hx1)).mono ?_; rintro e w2 ⟨rfl, hx2⟩; obtain ⟨k0_0, k0_1, f0_0, f0_1⟩ := box2 A0 ((((Ext.refl _).drew).trans hx1).trans hx2); have z0 := (A0.ext ((((Ext.refl _).drew).trans hx1).trans hx2)).lt; obtain ⟨k1_0, k1_1, f1_0, f1_1⟩ := box2 A1 ((((Ext.refl _).drew).trans hx1).trans hx2); have z1 := (A1.ext ((((Ext.refl _).drew).trans hx1).trans hx2)).lt))
    generalize (sgn s n).sign = p at *
    generalize (sgn t m).sign = q at *
    go_wp2
    go_ret
    exact ⟨ret_int E1.out.symm, (x0.drew.trans hx1).trans hx2⟩
  have c3 : (sgn s n).sign = (sgn t m).sign := by omega
  by_cases c4 : (sgn s n).sign < 0
  · have e1 : cmpZ (sgn s n) (sgn t m) = cmpN m n := by
      have n1 : sgn s n < 0 := by apply Int.not_le.1; intro h; have := Int.sign_nonneg_iff.2 h; omega
      have n2 : sgn t m < 0 := by apply Int.not_le.1; intro h; have := Int.sign_nonneg_iff.2 h; omega
      cases s
      · rw [sgn_false] at n1; omega
      · cases t
        · rw [sgn_false] at n2; omega
        · rw [sgn_true, sgn_true, cmpZ_neg, cmpZ_nat]
    have E1 := Lib.hid e1; clear e1 c3
    go_enter Tryz.func133, Tryz.ntmps133
    go_wp2
    obtain ⟨W, hW, x0, Z0, A0, A1⟩ := boxes2 w 53 [.bool s, .slice a k c] 53 [.bool t, .slice b k' c']
    rw [← hW]
    clear hW
    obtain ⟨k0_0, k0_1, f0_0, f0_1⟩ := box2 A0 (Ext.refl _)
    have z0 := (A0.ext (Ext.refl _)).lt
    obtain ⟨k1_0, k1_1, f1_0, f1_1⟩ := box2 A1 (Ext.refl _)
    have z1 := (A1.ext (Ext.refl _)).lt
    have tok1 : True := trivial
    go_region_held3 (fun w' => w'.cell? ⟨w.heap.size, 0, none⟩ = some (.bool s) ∧ w'.cell? ⟨w.heap.size, 1, none⟩ = some (.slice a k c) ∧ w'.cell? ⟨w.heap.size + 1, 0, none⟩ = some (.bool t) ∧ w'.cell? ⟨w.heap.size + 1, 1, none⟩ = some (.slice b k' c')) (first | exact ⟨k0_0, k0_1, k1_0, k1_1⟩ | (simp [go_sem, k0_0, k0_1, k1_0, k1_1])) (first
      | (go_at_call 154; have _t := tok1; refine (int_Sign _ _ _ _ _ _ ((h.ext x0).ext (by exact (Ext.refl _).drew))).mono ?_; rintro e w1 ⟨rfl, hx1⟩; clear tok1 _t; obtain ⟨k0_0, k0_1, f0_0, f0_1⟩ := box2 A0 (((Ext.refl _).drew).trans hx1); have z0 := (A0.ext (((Ext.refl _).drew).trans hx1)).lt; obtain ⟨k1_0, k1_1, f1_0, f1_1⟩ := box2 A1 (((Ext.refl _).drew).trans hx1); have z1 := (A1.ext (((Ext.refl _).drew).trans hx1)).lt)
      | (go_at_call 154; refine (int_Sign _ _ _ _ _ _ (((h'.ext x0).ext (by exact (Ext.refl _).drew)).ext hx1)).mono ?_; rintro e w2 ⟨rfl, hx2⟩; obtain ⟨k0_0, k0_1, f0_0, f0_1⟩ := box2 A0 ((((Ext.refl _).drew).trans hx1).trans hx2); have z0 := (A0.ext ((((Ext.refl _).drew).trans hx1).trans hx2)).lt; obtain ⟨k1_0, k1_1, f1_0, f1_1⟩ := box2 A1 ((((Ext.refl _).drew).trans hx1).trans hx2); have z1 := (A1.ext ((((Ext.refl _).drew).trans hx1).trans hx2)).lt))
    generalize (sgn s n).sign = p at *
    generalize (sgn t m).sign = q at *
    go_wp2_with fail
    refine (nat_Compare _ _ _ _ _ _ _ _ _ ((((h'.ext x0).ext (by exact (Ext.refl _).drew)).ext hx1).ext hx2) ((((h.ext x0).ext (by exact (Ext.refl _).drew)).ext hx1).ext hx2)).mono ?_
    rintro e w3 ⟨rfl, hq⟩
    go_wp2
    go_ret
    exact ⟨ret_int E1.out.symm, ((x0.drew.trans hx1).trans hx2).trans hq.ext⟩
  · have e1 : cmpZ (sgn s n) (sgn t m) = cmpN n m := by
      have n1 : 0 ≤ sgn s n := by apply Int.not_lt.1; intro h; have := Int.sign_eq_neg_one_of_neg h; omega
      have n2 : 0 ≤ sgn t m := by apply Int.not_lt.1; intro h; have := Int.sign_eq_neg_one_of_neg h; omega
      have m1 : sgn s n = n := by cases s
                                  · rfl
                                  · rw [sgn_true] at *; omega
      have m2 : sgn t m = m := by cases t
                                  · rfl
                                  · rw [sgn_true] at *; omega
      rw [m1, m2, cmpZ_nat]
    have E1 := Lib.hid e1; clear e1 c3
    go_enter Tryz.func133, Tryz.ntmps133
    go_wp2
    obtain ⟨W, hW, x0, Z0, A0, A1⟩ := boxes2 w 53 [.bool s, .slice a k c] 53 [.bool t, .slice b k' c']
    rw [← hW]
    clear hW
    obtain ⟨k0_0, k0_1, f0_0, f0_1⟩ := box2 A0 (Ext.refl _)
    have z0 := (A0.ext (Ext.refl _)).lt
    obtain ⟨k1_0, k1_1, f1_0, f1_1⟩ := box2 A1 (Ext.refl _)
    have z1 := (A1.ext (Ext.refl _)).lt
    have tok1 : True := trivial
    go_region_held3 (fun w' => w'.cell? ⟨w.heap.size, 0, none⟩ = some (.bool s) ∧ w'.cell? ⟨w.heap.size, 1, none⟩ = some (.slice a k c) ∧ w'.cell? ⟨w.heap.size + 1, 0, none⟩ = some (.bool t) ∧ w'.cell? ⟨w.heap.size + 1, 1, none⟩ = some (.slice b k' c')) (first | exact ⟨k0_0, k0_1, k1_0, k1_1⟩ | (simp [go_sem, k0_0, k0_1, k1_0, k1_1])) (first
      | (go_at_call 154; have _t := tok1; refine (int_Sign _ _ _ _ _ _ ((h.ext x0).ext (by exact (Ext.refl _).drew))).mono ?_; rintro e w1 ⟨rfl, hx1⟩; clear tok1 _t; obtain ⟨k0_0, k0_1, f0_0, f0_1⟩ := box2 A0 (((Ext.refl _).drew).trans hx1); have z0 := (A0.ext (((Ext.refl _).drew).trans hx1)).lt; obtain ⟨k1_0, k1_1, f1_0, f1_1⟩ := box2 A1 (((Ext.refl _).drew).trans hx1); have z1 := (A1.ext (((Ext.refl _).drew).trans hx1)).lt)
      | (go_at_call 154; refine (int_Sign _ _ _ _ _ _ (((h'.ext x0).ext (by exact (Ext.refl _).drew)).ext hx1)).mono ?_; rintro e w2 ⟨rfl, hx2⟩; obtain ⟨k0_0, k0_1, f0_0, f0_1⟩ := box2 A0 ((((Ext.refl _).drew).trans hx1).trans hx2); have z0 := (A0.ext ((((Ext.refl _).drew).trans hx1).trans hx2)).lt; obtain ⟨k1_0, k1_1, f1_0, f1_1⟩ := box2 A1 ((((Ext.refl _).drew).trans hx1).trans hx2); have z1 := (A1.ext ((((Ext.refl _).drew).trans hx1).trans hx2)).lt))
    generalize (sgn s n).sign = p at *
    generalize (sgn t m).sign = q at *
    go_wp2_with fail
    refine (nat_Compare _ _ _ _ _ _ _ _ _ ((((h.ext x0).ext (by exact (Ext.refl _).drew)).ext hx1).ext hx2) ((((h'.ext x0).ext (by exact (Ext.refl _).drew)).ext hx1).ext hx2)).mono ?_
    rintro e w3 ⟨rfl, hq⟩
    go_wp2
    go_ret
    exact ⟨ret_int E1.out.symm, ((x0.drew.trans hx1).trans hx2).trans hq.ext⟩

/-- integer.Value: the number fits. -/
theorem int_Value (w : World) (s : Bool) (a : Option Addr) (k c n : Nat) (h : Raw w a k c n) (h1 : -9223372036854775808 ≤ sgn s n) (h2 : sgn s n ≤ 9223372036854775807) :
    Calls Tryz.prog 83 #[.agg #[.bool s, .slice a k c]] w fun e w' => e = .returned (.tuple #[.int .i64 (sgn s n), .bool true]) ∧ Ext w w' := by
  cases s
  · rw [sgn_false] at *
    have d1 : ¬ (9223372036854775808 : Int) ≤ (n : Int) := by omega
    go_enter Tryz.func83, Tryz.ntmps83
    go_wp2_with fail
    refine (nat_Uint64_yes _ _ _ _ _ (h.ext ((Ext.refl _).alloc _)) (by omega)).mono ?_
    rintro e w1 ⟨rfl, rfl⟩
    go_wp2
    go_ret2
    exact ⟨rfl, (Ext.refl _).alloc _⟩
  · rw [sgn_true] at *
    have e1 : wrap64 (IntKind.u64.wrap (-(n : Int))) = -(n : Int) := by
      rw [IntKind.wrap_u64]; unfold wrap64; omega
    have E1 := Lib.hid e1; clear e1
    have d1 : (n : Int) ≤ 9223372036854775808 := by omega
    go_enter Tryz.func83, Tryz.ntmps83
    go_wp2_with fail
    refine (nat_Uint64_yes _ _ _ _ _ (h.ext ((Ext.refl _).alloc _)) (by omega)).mono ?_
    rintro e w1 ⟨rfl, rfl⟩
    go_wp2
    go_ret2
    refine ⟨?_, (Ext.refl _).alloc _⟩
    simp [go_sem, E1.out]

/-- A call returns two new integers and true. -/
def NewInts (x y : Int) (w : World) (e : Ending) (w' : World) : Prop := ∃ a c a' c', e = .returned (.tuple #[.agg #[.bool (decide (x < 0)), .slice a (len x.natAbs) c], .agg #[.bool (decide (y < 0)), .slice a' (len y.natAbs) c'], .bool true]) ∧
  Raw w' a (len x.natAbs) c x.natAbs ∧ Fr w.heap.size a ∧ Raw w' a' (len y.natAbs) c' y.natAbs ∧ Fr w.heap.size a' ∧ Ext w w'

theorem NewInts.of {w W w2 w3 : World} {s : Bool} {a a' : Option Addr} {c c' n m : Nat} {x y : Int} (hx : x = sgn s n) (hy : y = m) (h : Raw w2 a (len n) c n) (hf : Fr W.heap.size a) (h' : Raw w2 a' (len m) c' m) (hf' : Fr W.heap.size a') (hW : Ext w W) (h2 : Ext W w2)
    (t : Touch w.heap.size W.heap.size w2 w3) : NewInts x y w (.returned (.tuple #[.agg #[.bool (s && decide (0 < len n)), .slice a (len n) c], .agg #[.bool false, .slice a' (len m) c'], .bool true])) w3 := by
  subst hx; subst hy
  refine ⟨a, c, a', c', ?_, ?_, hf.mono hW.size, ?_, hf'.mono hW.size, hW.touch h2 t⟩
  · rw [sgn_natAbs, sgn_neg]; simp only [len_pos, Int.natAbs_natCast]
    have : decide ((m : Int) < 0) = false := by simp
    rw [this]
  · rw [sgn_natAbs]; exact h.touch t hf.out
  · rw [Int.natAbs_natCast]; exact h'.touch t hf'.out

theorem ediv_case {s t : Bool} {n m : Nat} (hm : 0 < m) (h : s = false ∨ n % m = 0) : sgn s n / sgn t m = sgn (s != t) (n / m) ∧ sgn s n % sgn t m = (n % m : Nat) := by
  have hmz : (m : Int) ≠ 0 := by omega
  cases s
  · cases t
    · simp [sgn]
    · simp [sgn, Int.ediv_neg, Int.emod_neg]
  · have h0 : n % m = 0 := by simpa using h
    obtain ⟨q, rfl⟩ : ∃ q, n = m * q := ⟨n / m, by have := Nat.div_add_mod n m; omega⟩
    cases t
    · simp only [sgn]; constructor
      · simp [Nat.mul_div_cancel_left _ hm]
        rw [← Int.mul_neg, Int.mul_ediv_cancel_left _ hmz]
      · simp
    · simp only [sgn]; constructor
      · simp [Nat.mul_div_cancel_left _ hm]
        rw [← Int.mul_neg, Int.mul_ediv_cancel_left _ hmz]; omega
      · simp

theorem ediv_case_neg {t : Bool} {n m : Nat} (hm : 0 < m) (h : 0 < n % m) : sgn true n / sgn t m = sgn (true != t) (n / m + 1) ∧ sgn true n % sgn t m = (m - n % m : Nat) := by
  have h1 := Nat.div_add_mod n m
  have h2 := Nat.mod_lt n hm
  have hmz : (0 : Int) < (m : Int) := by omega
  have e : (-(n : Int)) = (m : Int) * (-((n / m : Nat) : Int) - 1) + ((m - n % m : Nat) : Int) := by
    rw [Int.ofNat_sub (Nat.le_of_lt h2), Int.mul_sub, Int.mul_neg]
    have : (n : Int) = (m : Int) * ((n / m : Nat) : Int) + ((n % m : Nat) : Int) := by exact_mod_cast h1.symm
    rw [Int.mul_one]
    omega
  have q1 : (-(n : Int)) / (m : Int) = -((n / m : Nat) : Int) - 1 := by
    rw [e, Int.mul_add_ediv_left _ _ (by omega), Int.ediv_eq_zero_of_lt (by omega) (by omega)]; omega
  have r1 : (-(n : Int)) % (m : Int) = ((m - n % m : Nat) : Int) := by
    rw [e, Int.mul_add_emod_self_left, Int.emod_eq_of_lt (by omega) (by omega)]
  cases t
  · simp only [sgn]; simp
    refine ⟨?_, ?_⟩
    · rw [q1]; simp; omega
    · rw [r1]
  · simp only [sgn]; simp
    refine ⟨?_, ?_⟩
    · rw [q1]; simp; omega
    · rw [r1]

set_option maxHeartbeats 1000000 in
set_option maxRecDepth 100000 in
/-- integer.DivMod. -/
theorem int_DivMod (w : World) (s t : Bool) (a b : Option Addr) (k c k' c' n m : Nat) (h : Raw w a k c n) (h' : Raw w b k' c' m) (hm : 0 < m) (b1 : len n < 1000000000 - 1) :
    Calls Tryz.prog 215 #[.agg #[.bool s, .slice a k c], .agg #[.bool t, .slice b k' c']] w (NewInts (sgn s n / sgn t m) (sgn s n % sgn t m) w) := by
  by_cases hc : s = false ∨ n % m = 0
  · obtain ⟨e1, e2⟩ := ediv_case (t := t) hm hc
    have E1 := Lib.hid e1; have E2 := Lib.hid e2; clear e1 e2
    have hg : (s && decide (0 < len (n % m))) = false := by
      rcases hc with rfl | h0
      · rfl
      · rw [h0, len_zero]; simp
    go_enter Tryz.func215, Tryz.ntmps215
    go_wp2_with fail
    obtain ⟨W, hW, x0, Z0, A0, A1, A2, A3⟩ := boxes4 w 53 [.bool s, .slice a k c] 53 [.bool t, .slice b k' c'] 53 [.bool false, .slice none 0 0] 53 [.bool false, .slice none 0 0]
    rw [← hW]
    clear hW
    obtain ⟨k0_0, k0_1, f0_0, f0_1⟩ := box2 A0 (Ext.refl _)
    have z0 := (A0.ext (Ext.refl _)).lt
    obtain ⟨k1_0, k1_1, f1_0, f1_1⟩ := box2 A1 (Ext.refl _)
    have z1 := (A1.ext (Ext.refl _)).lt
    obtain ⟨k2_0, k2_1, f2_0, f2_1⟩ := box2 A2 (Ext.refl _)
    have z2 := (A2.ext (Ext.refl _)).lt
    obtain ⟨k3_0, k3_1, f3_0, f3_1⟩ := box2 A3 (Ext.refl _)
    have z3 := (A3.ext (Ext.refl _)).lt
    refine (nat_DivMod _ _ _ _ _ _ _ _ _ (h.ext x0) (h'.ext x0) hm (by omega)).mono ?_
    rintro e w1 ⟨a1, c1, a2, c2, rfl, hr1, hf1, hr2, hf2, hx1⟩
    obtain ⟨k0_0, k0_1, f0_0, f0_1⟩ := box2 A0 hx1
    have z0 := (A0.ext hx1).lt
    obtain ⟨k1_0, k1_1, f1_0, f1_1⟩ := box2 A1 hx1
    have z1 := (A1.ext hx1).lt
    obtain ⟨k2_0, k2_1, f2_0, f2_1⟩ := box2 A2 hx1
    have z2 := (A2.ext hx1).lt
    obtain ⟨k3_0, k3_1, f3_0, f3_1⟩ := box2 A3 hx1
    have z3 := (A3.ext hx1).lt
    have hl1 := hr1.le
    have hl2 := hr2.le
    cases s
    · go_wp2_with fail
      refine (int_signed _ _ _ _ _ (by omega)).mono ?_
      rintro e w2 ⟨rfl, hx2⟩
      obtain ⟨k0_0, k0_1, f0_0, f0_1⟩ := box2 A0 (hx1.trans hx2)
      have z0 := (A0.ext (hx1.trans hx2)).lt
      obtain ⟨k1_0, k1_1, f1_0, f1_1⟩ := box2 A1 (hx1.trans hx2)
      have z1 := (A1.ext (hx1.trans hx2)).lt
      obtain ⟨k2_0, k2_1, f2_0, f2_1⟩ := box2 A2 (hx1.trans hx2)
      have z2 := (A2.ext (hx1.trans hx2)).lt
      obtain ⟨k3_0, k3_1, f3_0, f3_1⟩ := box2 A3 (hx1.trans hx2)
      have z3 := (A3.ext (hx1.trans hx2)).lt
      go_wp2_with fail
      refine (int_signed _ _ _ _ _ (by omega)).mono ?_
      rintro e w3 ⟨rfl, hx3⟩
      obtain ⟨k0_0, k0_1, f0_0, f0_1⟩ := box2 A0 ((hx1.trans hx2).trans hx3)
      have z0 := (A0.ext ((hx1.trans hx2).trans hx3)).lt
      obtain ⟨k1_0, k1_1, f1_0, f1_1⟩ := box2 A1 ((hx1.trans hx2).trans hx3)
      have z1 := (A1.ext ((hx1.trans hx2).trans hx3)).lt
      obtain ⟨k2_0, k2_1, f2_0, f2_1⟩ := box2 A2 ((hx1.trans hx2).trans hx3)
      have z2 := (A2.ext ((hx1.trans hx2).trans hx3)).lt
      obtain ⟨k3_0, k3_1, f3_0, f3_1⟩ := box2 A3 ((hx1.trans hx2).trans hx3)
      have z3 := (A3.ext ((hx1.trans hx2).trans hx3)).lt
      have fin := fun w4 t4 => NewInts.of (w := w) (w3 := w4) (x := sgn false n / sgn t m) (y := sgn false n % sgn t m) E1.out E2.out ((hr1.ext hx2).ext hx3) hf1 ((hr2.ext hx2).ext hx3) hf2 x0 ((hx1.trans hx2).trans hx3) t4
      go_wp2
      exact bodyPost_ret (by simp [results, Tryz.results215, go_sem, k2_0, k2_1, k3_0, k3_1]) rfl (fin _ ((Touch.two _ (by omega) (by rw [Z0.out]; omega) _ _).trans (Touch.two _ (by omega) (by rw [Z0.out]; omega) _ _)))
    · have h0 : n % m = 0 := by simpa using hc
      have h0' : len (n % m) = 0 := by rw [h0]; rfl
      have H0 := Lib.hid h0; clear h0 hg hc
      have hd0 : decide (0 < len (n % m)) = false := by rw [h0']; rfl
      have H0' := Lib.hid h0'; clear h0'
      go_wp2_with fail
      refine (int_signed _ _ _ _ _ (by omega)).mono ?_
      rintro e w2 ⟨rfl, hx2⟩
      obtain ⟨k0_0, k0_1, f0_0, f0_1⟩ := box2 A0 (hx1.trans hx2)
      have z0 := (A0.ext (hx1.trans hx2)).lt
      obtain ⟨k1_0, k1_1, f1_0, f1_1⟩ := box2 A1 (hx1.trans hx2)
      have z1 := (A1.ext (hx1.trans hx2)).lt
      obtain ⟨k2_0, k2_1, f2_0, f2_1⟩ := box2 A2 (hx1.trans hx2)
      have z2 := (A2.ext (hx1.trans hx2)).lt
      obtain ⟨k3_0, k3_1, f3_0, f3_1⟩ := box2 A3 (hx1.trans hx2)
      have z3 := (A3.ext (hx1.trans hx2)).lt
      go_wp2_with fail
      refine (int_signed _ _ _ _ _ (by omega)).mono ?_
      rintro e w3 ⟨rfl, hx3⟩
      obtain ⟨k0_0, k0_1, f0_0, f0_1⟩ := box2 A0 ((hx1.trans hx2).trans hx3)
      have z0 := (A0.ext ((hx1.trans hx2).trans hx3)).lt
      obtain ⟨k1_0, k1_1, f1_0, f1_1⟩ := box2 A1 ((hx1.trans hx2).trans hx3)
      have z1 := (A1.ext ((hx1.trans hx2).trans hx3)).lt
      obtain ⟨k2_0, k2_1, f2_0, f2_1⟩ := box2 A2 ((hx1.trans hx2).trans hx3)
      have z2 := (A2.ext ((hx1.trans hx2).trans hx3)).lt
      obtain ⟨k3_0, k3_1, f3_0, f3_1⟩ := box2 A3 ((hx1.trans hx2).trans hx3)
      have z3 := (A3.ext ((hx1.trans hx2).trans hx3)).lt
      have fin := fun w4 t4 => NewInts.of (w := w) (w3 := w4) (x := sgn true n / sgn t m) (y := sgn true n % sgn t m) E1.out E2.out ((hr1.ext hx2).ext hx3) hf1 ((hr2.ext hx2).ext hx3) hf2 x0 ((hx1.trans hx2).trans hx3) t4
      go_wp2
      exact bodyPost_ret (by simp [results, Tryz.results215, go_sem, k2_0, k2_1, k3_0, k3_1]) rfl (fin _ ((Touch.two _ (by omega) (by rw [Z0.out]; omega) _ _).trans (Touch.two _ (by omega) (by rw [Z0.out]; omega) _ _)))
  · obtain ⟨rfl, hr0⟩ : s = true ∧ 0 < n % m := by
      cases s
      · exact absurd (Or.inl rfl) hc
      · exact ⟨rfl, Nat.pos_of_ne_zero fun h => hc (Or.inr h)⟩
    clear hc
    obtain ⟨e1, e2⟩ := ediv_case_neg (t := t) hm hr0
    have E1 := Lib.hid e1; have E2 := Lib.hid e2; clear e1 e2
    have hlr := len_pos.2 hr0
    have hrm := Nat.mod_lt n hm
    go_enter Tryz.func215, Tryz.ntmps215
    go_wp2_with fail
    obtain ⟨W, hW, x0, Z0, A0, A1, A2, A3⟩ := boxes4 w 53 [.bool true, .slice a k c] 53 [.bool t, .slice b k' c'] 53 [.bool false, .slice none 0 0] 53 [.bool false, .slice none 0 0]
    rw [← hW]
    clear hW
    obtain ⟨k0_0, k0_1, f0_0, f0_1⟩ := box2 A0 (Ext.refl _)
    have z0 := (A0.ext (Ext.refl _)).lt
    obtain ⟨k1_0, k1_1, f1_0, f1_1⟩ := box2 A1 (Ext.refl _)
    have z1 := (A1.ext (Ext.refl _)).lt
    obtain ⟨k2_0, k2_1, f2_0, f2_1⟩ := box2 A2 (Ext.refl _)
    have z2 := (A2.ext (Ext.refl _)).lt
    obtain ⟨k3_0, k3_1, f3_0, f3_1⟩ := box2 A3 (Ext.refl _)
    have z3 := (A3.ext (Ext.refl _)).lt
    refine (nat_DivMod _ _ _ _ _ _ _ _ _ (h.ext x0) (h'.ext x0) hm (by omega)).mono ?_
    rintro e w1 ⟨a1, c1, a2, c2, rfl, hr1, hf1, hr2, hf2, hx1⟩
    obtain ⟨k0_0, k0_1, f0_0, f0_1⟩ := box2 A0 hx1
    have z0 := (A0.ext hx1).lt
    obtain ⟨k1_0, k1_1, f1_0, f1_1⟩ := box2 A1 hx1
    have z1 := (A1.ext hx1).lt
    obtain ⟨k2_0, k2_1, f2_0, f2_1⟩ := box2 A2 hx1
    have z2 := (A2.ext hx1).lt
    obtain ⟨k3_0, k3_1, f3_0, f3_1⟩ := box2 A3 hx1
    have z3 := (A3.ext hx1).lt
    have hd0 : decide (0 < len (n % m)) = true := by simp [hlr]
    have hone : ∀ W : World, Raw (W.alloc (Obj.cells #[.int .u32 1] 122)) (some ⟨W.heap.size, 0, none⟩) 1 1 1 := fun W =>
      ⟨[1], rfl, rfl, (Arr.alloc W 122 (u32s [1])).limbs (Small.one (by decide)) (by simp)⟩
    have hln : len (n / m) ≤ len n := len_mono (Nat.div_le_self _ _)
    go_wp2_with fail
    refine (nat_Add _ _ _ _ _ _ _ _ _ (hr1.ext ((Ext.refl _).alloc _)) (hone _) (by omega) (by rw [len_one (by decide) (by decide)]; decide)).mono ?_
    rintro e w2 ⟨a3, c3, rfl, hr3, hf3, hx2⟩
    obtain ⟨k0_0, k0_1, f0_0, f0_1⟩ := box2 A0 ((hx1.alloc _).trans hx2)
    have z0 := (A0.ext ((hx1.alloc _).trans hx2)).lt
    obtain ⟨k1_0, k1_1, f1_0, f1_1⟩ := box2 A1 ((hx1.alloc _).trans hx2)
    have z1 := (A1.ext ((hx1.alloc _).trans hx2)).lt
    obtain ⟨k2_0, k2_1, f2_0, f2_1⟩ := box2 A2 ((hx1.alloc _).trans hx2)
    have z2 := (A2.ext ((hx1.alloc _).trans hx2)).lt
    obtain ⟨k3_0, k3_1, f3_0, f3_1⟩ := box2 A3 ((hx1.alloc _).trans hx2)
    have z3 := (A3.ext ((hx1.alloc _).trans hx2)).lt
    go_wp2_with fail
    refine (nat_Sub _ _ _ _ _ _ _ _ _ (((h'.ext x0).ext (hx1.alloc _)).ext hx2) ((hr2.ext ((Ext.refl _).alloc _)).ext hx2) (Nat.le_of_lt hrm)).mono ?_
    rintro e w3 ⟨a4, c4, rfl, hr4, hf4, hx3⟩
    obtain ⟨k0_0, k0_1, f0_0, f0_1⟩ := box2 A0 (((hx1.alloc _).trans hx2).trans hx3)
    have z0 := (A0.ext (((hx1.alloc _).trans hx2).trans hx3)).lt
    obtain ⟨k1_0, k1_1, f1_0, f1_1⟩ := box2 A1 (((hx1.alloc _).trans hx2).trans hx3)
    have z1 := (A1.ext (((hx1.alloc _).trans hx2).trans hx3)).lt
    obtain ⟨k2_0, k2_1, f2_0, f2_1⟩ := box2 A2 (((hx1.alloc _).trans hx2).trans hx3)
    have z2 := (A2.ext (((hx1.alloc _).trans hx2).trans hx3)).lt
    obtain ⟨k3_0, k3_1, f3_0, f3_1⟩ := box2 A3 (((hx1.alloc _).trans hx2).trans hx3)
    have z3 := (A3.ext (((hx1.alloc _).trans hx2).trans hx3)).lt
    have hl3 := hr3.le
    have hl4 := hr4.le
    go_wp2_with fail
    refine (int_signed _ _ _ _ _ (by omega)).mono ?_
    rintro e w4 ⟨rfl, hx4⟩
    obtain ⟨k0_0, k0_1, f0_0, f0_1⟩ := box2 A0 ((((hx1.alloc _).trans hx2).trans hx3).trans hx4)
    have z0 := (A0.ext ((((hx1.alloc _).trans hx2).trans hx3).trans hx4)).lt
    obtain ⟨k1_0, k1_1, f1_0, f1_1⟩ := box2 A1 ((((hx1.alloc _).trans hx2).trans hx3).trans hx4)
    have z1 := (A1.ext ((((hx1.alloc _).trans hx2).trans hx3).trans hx4)).lt
    obtain ⟨k2_0, k2_1, f2_0, f2_1⟩ := box2 A2 ((((hx1.alloc _).trans hx2).trans hx3).trans hx4)
    have z2 := (A2.ext ((((hx1.alloc _).trans hx2).trans hx3).trans hx4)).lt
    obtain ⟨k3_0, k3_1, f3_0, f3_1⟩ := box2 A3 ((((hx1.alloc _).trans hx2).trans hx3).trans hx4)
    have z3 := (A3.ext ((((hx1.alloc _).trans hx2).trans hx3).trans hx4)).lt
    go_wp2_with fail
    refine (int_signed _ _ _ _ _ (by omega)).mono ?_
    rintro e w5 ⟨rfl, hx5⟩
    obtain ⟨k0_0, k0_1, f0_0, f0_1⟩ := box2 A0 (((((hx1.alloc _).trans hx2).trans hx3).trans hx4).trans hx5)
    have z0 := (A0.ext (((((hx1.alloc _).trans hx2).trans hx3).trans hx4).trans hx5)).lt
    obtain ⟨k1_0, k1_1, f1_0, f1_1⟩ := box2 A1 (((((hx1.alloc _).trans hx2).trans hx3).trans hx4).trans hx5)
    have z1 := (A1.ext (((((hx1.alloc _).trans hx2).trans hx3).trans hx4).trans hx5)).lt
    obtain ⟨k2_0, k2_1, f2_0, f2_1⟩ := box2 A2 (((((hx1.alloc _).trans hx2).trans hx3).trans hx4).trans hx5)
    have z2 := (A2.ext (((((hx1.alloc _).trans hx2).trans hx3).trans hx4).trans hx5)).lt
    obtain ⟨k3_0, k3_1, f3_0, f3_1⟩ := box2 A3 (((((hx1.alloc _).trans hx2).trans hx3).trans hx4).trans hx5)
    have z3 := (A3.ext (((((hx1.alloc _).trans hx2).trans hx3).trans hx4).trans hx5)).lt
    have sz1 : W.heap.size ≤ w1.heap.size := hx1.size
    have sz2 : W.heap.size ≤ w2.heap.size := ((hx1.alloc _).trans hx2).size
    have fin := fun w6 t6 => NewInts.of (w := w) (w3 := w6) (x := sgn true n / sgn t m) (y := sgn true n % sgn t m) E1.out E2.out (((hr3.ext hx3).ext hx4).ext hx5) (hf3.mono (by simp; omega)) ((hr4.ext hx4).ext hx5) (hf4.mono sz2) x0 (((((hx1.alloc _).trans hx2).trans hx3).trans hx4).trans hx5) t6
    go_wp2
    exact bodyPost_ret (by simp [results, Tryz.results215, go_sem, k2_0, k2_1, k3_0, k3_1]) rfl (fin _ ((Touch.two _ (by omega) (by rw [Z0.out]; omega) _ _).trans (Touch.two _ (by omega) (by rw [Z0.out]; omega) _ _)))
end Go.Proofs.YtgihpfkjpfanmaaGreat

/- Rational numbers in memory; contracts of rational.parts, rational.small, rational.quotient. -/
namespace Go.Proofs.YtgihpfkjpfanmaaGreat
open Go.RowKit

/-- A call returns a new rational number q, canonical. -/
def NewRat (q : Rat) (w : World) (e : Ending) (w' : World) : Prop := ∃ a c a' c', e = .returned (.agg #[.bool (decide (q.num < 0)), .slice a (len q.num.natAbs) c, .slice a' (len q.den) c']) ∧
  Raw w' a (len q.num.natAbs) c q.num.natAbs ∧ Fr w.heap.size a ∧ Raw w' a' (len q.den) c' q.den ∧ Fr w.heap.size a' ∧ Ext w w'

theorem NewRat.touch {q : Rat} {w W w2 w3 : World} {e : Ending} (h : NewRat q W e w2) (hW : Ext w W) (t : Touch w.heap.size W.heap.size w2 w3) : NewRat q w e w3 := by
  obtain ⟨a, c, a', c', he, hr, hf, hr', hf', hx⟩ := h
  exact ⟨a, c, a', c', he, hr.touch t hf.out, hf.mono hW.size, hr'.touch t hf'.out, hf'.mono hW.size, hW.touch hx t⟩

/-- What rational.parts returns: numerator and positive denominator. -/
def PartsOf (s : Bool) (n m : Nat) (w : World) (e : Ending) (w' : World) : Prop := ∃ s1 a1 k1 c1 n1 b1 j1 d1 m1, e = .returned (.tuple #[.agg #[.bool s1, .slice a1 k1 c1], .slice b1 j1 d1]) ∧
  Raw w' a1 k1 c1 n1 ∧ Raw w' b1 j1 d1 m1 ∧ 0 < m1 ∧ mkRat (sgn s1 n1) m1 = mkRat (sgn s n) m ∧ len n1 ≤ len n ∧ len m1 ≤ len m + 1 ∧ Ext w w'

theorem raw_one (w : World) : Raw (w.alloc (Obj.cells #[.int .u32 1] 122)) (some ⟨w.heap.size, 0, none⟩) 1 1 1 :=
  ⟨[1], rfl, rfl, (Arr.alloc w 122 (u32s [1])).limbs (Small.one (by decide)) (by simp)⟩
theorem len1 : len 1 = 1 := len_one (by decide) (by decide)

set_option maxHeartbeats 400000 in
/-- rational.parts. -/
theorem rat_parts (w : World) (s : Bool) (a b : Option Addr) (k c j d n m : Nat) (h : Raw w a k c n) (g : Raw w b j d m) :
    Calls Tryz.prog 132 #[.agg #[.bool s, .slice a k c, .slice b j d]] w (PartsOf s n m w) := by
  by_cases hm : m = 0
  · subst hm
    have hc : cmpN 0 0 = 0 := rfl
    go_enter Tryz.func132, Tryz.ntmps132
    go_wp2_with fail
    obtain ⟨W, hW, x0, Z0, A0, A1⟩ := boxes2 w 55 [.bool s, .slice a k c, .slice b j d] 53 [.bool false, .slice none 0 0]
    rw [← hW]
    clear hW
    obtain ⟨k0_0, k0_1, k0_2, f0_0, f0_1, f0_2⟩ := box3 A0 (Ext.refl _)
    have z0 := (A0.ext (Ext.refl _)).lt
    obtain ⟨k1_0, k1_1, f1_0, f1_1⟩ := box2 A1 (Ext.refl _)
    have z1 := (A1.ext (Ext.refl _)).lt
    refine (nat_Compare _ _ _ _ _ _ _ _ _ (g.ext x0) (Raw.nil _)).mono ?_
    rintro e w1 ⟨rfl, hq1⟩
    rw [hc]
    obtain ⟨k0_0, k0_1, k0_2, f0_0, f0_1, f0_2⟩ := box3 A0 hq1.ext
    have z0 := (A0.ext hq1.ext).lt
    obtain ⟨k1_0, k1_1, f1_0, f1_1⟩ := box2 A1 hq1.ext
    have z1 := (A1.ext hq1.ext).lt
    go_wp2
    refine bodyPost_ret (v := .tuple #[.agg #[.bool false, .slice none 0 0], .slice (some ⟨w1.heap.size, 0, none⟩) 1 1]) (by simp [results, Tryz.results132, go_sem, k1_0, k1_1, z1]) rfl ?_
    refine ⟨false, none, 0, 0, 0, some ⟨w1.heap.size, 0, none⟩, 1, 1, 1, rfl, Raw.nil _, ?_, by omega, by simp [sgn], by rw [len_zero]; omega, by rw [len1]; omega, ?_⟩
    · have := raw_one ((w1.setCell ⟨w.heap.size + 1, 0, none⟩ (.bool false)).setCell ⟨w.heap.size + 1, 1, none⟩ (.slice none 0 0)); simpa using this
    · refine Ext.alloc (Ext.setCell (Ext.setCell (x0.trans hq1.ext) ?_ _) ?_ _) _ <;> simp
  · have hc : cmpN m 0 = 1 := by unfold cmpN; rw [if_neg (by omega), if_neg hm]
    have HC := Lib.hid hc; clear hc
    go_enter Tryz.func132, Tryz.ntmps132
    go_wp2_with fail
    obtain ⟨W, hW, x0, Z0, A0, A1⟩ := boxes2 w 55 [.bool s, .slice a k c, .slice b j d] 53 [.bool false, .slice none 0 0]
    rw [← hW]
    clear hW
    obtain ⟨k0_0, k0_1, k0_2, f0_0, f0_1, f0_2⟩ := box3 A0 (Ext.refl _)
    have z0 := (A0.ext (Ext.refl _)).lt
    obtain ⟨k1_0, k1_1, f1_0, f1_1⟩ := box2 A1 (Ext.refl _)
    have z1 := (A1.ext (Ext.refl _)).lt
    refine (nat_Compare _ _ _ _ _ _ _ _ _ (g.ext x0) (Raw.nil _)).mono ?_
    rintro e w1 ⟨rfl, hq1⟩
    rw [HC.out]
    obtain ⟨k0_0, k0_1, k0_2, f0_0, f0_1, f0_2⟩ := box3 A0 hq1.ext
    have z0 := (A0.ext hq1.ext).lt
    obtain ⟨k1_0, k1_1, f1_0, f1_1⟩ := box2 A1 hq1.ext
    have z1 := (A1.ext hq1.ext).lt
    go_wp2
    go_region
    go_wp2
    refine bodyPost_ret (v := .tuple #[.agg #[.bool s, .slice a k c], .slice b j d]) (by simp [results, Tryz.results132, go_sem, k1_0, k1_1, z1]) rfl ?_
    have hx : Ext w ((w1.setCell ⟨w.heap.size + 1, 0, none⟩ (.bool s)).setCell ⟨w.heap.size + 1, 1, none⟩ (.slice a k c)).drew := (((x0.trans hq1.ext).setCell (by simp) _).setCell (by simp) _).drew
    exact ⟨s, a, k, c, n, b, j, d, m, rfl, h.ext hx, g.ext hx, by omega, rfl, Nat.le_refl _, by omega, hx⟩

set_option maxRecDepth 100000 in
/-- rational.small says no. -/
theorem rat_small_no (w : World) (s : Bool) (a b : Option Addr) (k c j d n m : Nat) (h : Raw w a k c n) (g : Raw w b j d m) (hbig : ¬ (n < 2147483648 ∧ m < 2147483648)) :
    Calls Tryz.prog 130 #[.agg #[.bool s, .slice a k c, .slice b j d]] w fun e w' => e = .returned (.tuple #[.int .i64 0, .int .i64 0, .bool false]) ∧ Ext w w' := by
  by_cases hn : n < 18446744073709551616
  · by_cases hm : m < 18446744073709551616
    · by_cases hn1 : n < 2147483648
      · have hm1 : (2147483648 : Int) ≤ (m : Int) := by omega
        have dn : decide ((2147483648 : Int) ≤ (n : Int)) = false := decide_eq_false (by omega)
        have HN := Lib.hid hn; have HN1 := Lib.hid hn1; clear hn1 hn
        clear hbig
        go_enter Tryz.func130, Tryz.ntmps130
        go_wp2_with fail
        refine (nat_Uint64_yes _ _ _ _ _ (h.ext ((Ext.refl _).alloc _)) HN.out).mono ?_
        rintro e w1 ⟨rfl, rfl⟩
        go_wp2_with fail
        refine (nat_Uint64_yes _ _ _ _ _ (g.ext ((Ext.refl _).alloc _)) hm).mono ?_
        rintro e w1 ⟨rfl, rfl⟩
        go_wp2
        go_ret3
        exact ⟨rfl, (Ext.refl _).alloc _⟩
      · have hn2 : (2147483648 : Int) ≤ (n : Int) := by omega
        clear hbig
        go_enter Tryz.func130, Tryz.ntmps130
        go_wp2_with fail
        refine (nat_Uint64_yes _ _ _ _ _ (h.ext ((Ext.refl _).alloc _)) hn).mono ?_
        rintro e w1 ⟨rfl, rfl⟩
        go_wp2_with fail
        refine (nat_Uint64_yes _ _ _ _ _ (g.ext ((Ext.refl _).alloc _)) hm).mono ?_
        rintro e w1 ⟨rfl, rfl⟩
        go_wp2
        go_ret3
        exact ⟨rfl, (Ext.refl _).alloc _⟩
    · clear hbig
      go_enter Tryz.func130, Tryz.ntmps130
      go_wp2_with fail
      refine (nat_Uint64_yes _ _ _ _ _ (h.ext ((Ext.refl _).alloc _)) hn).mono ?_
      rintro e w1 ⟨rfl, rfl⟩
      go_wp2_with fail
      refine (nat_Uint64_no _ _ _ _ _ (g.ext ((Ext.refl _).alloc _)) (by omega)).mono ?_
      rintro e w1 ⟨rfl, rfl⟩
      go_wp2
      go_ret3
      exact ⟨rfl, (Ext.refl _).alloc _⟩
  · clear hbig
    by_cases hm : m < 18446744073709551616
    · go_enter Tryz.func130, Tryz.ntmps130
      go_wp2_with fail
      refine (nat_Uint64_no _ _ _ _ _ (h.ext ((Ext.refl _).alloc _)) (by omega)).mono ?_
      rintro e w1 ⟨rfl, rfl⟩
      go_wp2_with fail
      refine (nat_Uint64_yes _ _ _ _ _ (g.ext ((Ext.refl _).alloc _)) hm).mono ?_
      rintro e w1 ⟨rfl, rfl⟩
      go_wp2
      go_ret3
      exact ⟨rfl, (Ext.refl _).alloc _⟩
    · go_enter Tryz.func130, Tryz.ntmps130
      go_wp2_with fail
      refine (nat_Uint64_no _ _ _ _ _ (h.ext ((Ext.refl _).alloc _)) (by omega)).mono ?_
      rintro e w1 ⟨rfl, rfl⟩
      go_wp2_with fail
      refine (nat_Uint64_no _ _ _ _ _ (g.ext ((Ext.refl _).alloc _)) (by omega)).mono ?_
      rintro e w1 ⟨rfl, rfl⟩
      go_wp2
      go_ret3
      exact ⟨rfl, (Ext.refl _).alloc _⟩

/-- What rational.small returns of a small number. -/
def SmallOf (s : Bool) (n m : Nat) (w : World) (e : Ending) (w' : World) : Prop := ∃ (x : Int) (y : Nat), e = .returned (.tuple #[.int .i64 x, .int .i64 (y : Nat), .bool true]) ∧
  -2147483648 < x ∧ x < 2147483648 ∧ 0 < y ∧ y < 2147483648 ∧ mkRat x y = mkRat (sgn s n) m ∧ Ext w w'

set_option maxRecDepth 100000 in
/-- rational.small says yes. -/
theorem rat_small (w : World) (s : Bool) (a b : Option Addr) (k c j d n m : Nat) (h : Raw w a k c n) (g : Raw w b j d m) (hn : n < 2147483648) (hm : m < 2147483648) :
    Calls Tryz.prog 130 #[.agg #[.bool s, .slice a k c, .slice b j d]] w (SmallOf s n m w) := by
  have dn : decide ((2147483648 : Int) ≤ (n : Int)) = false := decide_eq_false (by omega)
  have dm : decide ((2147483648 : Int) ≤ (m : Int)) = false := decide_eq_false (by omega)
  have hn3 : n < 3000000000 := by omega
  have hm3 : m < 3000000000 := by omega
  have HN := Lib.hid hn; have HM := Lib.hid hm; clear hn hm
  by_cases h0 : m = 0
  · subst h0
    go_enter Tryz.func130, Tryz.ntmps130
    go_wp2_with fail
    refine (nat_Uint64_yes _ _ _ _ _ (h.ext ((Ext.refl _).alloc _)) (by have := HN.out; omega)).mono ?_
    rintro e w1 ⟨rfl, rfl⟩
    go_wp2_with fail
    refine (nat_Uint64_yes _ _ _ _ _ (g.ext ((Ext.refl _).alloc _)) (by have := HM.out; omega)).mono ?_
    rintro e w1 ⟨rfl, rfl⟩
    go_wp2
    go_ret3
    exact ⟨0, 1, rfl, by omega, by omega, by omega, by omega, by simp, (Ext.refl _).alloc _⟩
  · have hm0 : ((m : Int) == 0) = false := by rw [beq_eq_false_iff_ne]; omega
    cases s
    · go_enter Tryz.func130, Tryz.ntmps130
      go_wp2_with fail
      refine (nat_Uint64_yes _ _ _ _ _ (h.ext ((Ext.refl _).alloc _)) (by have := HN.out; omega)).mono ?_
      rintro e w1 ⟨rfl, rfl⟩
      go_wp2_with fail
      refine (nat_Uint64_yes _ _ _ _ _ (g.ext ((Ext.refl _).alloc _)) (by have := HM.out; omega)).mono ?_
      rintro e w1 ⟨rfl, rfl⟩
      go_wp2
      go_ret3
      have hn := HN.out; have hm := HM.out
      exact ⟨n, m, rfl, by omega, by omega, by omega, by omega, rfl, (Ext.refl _).alloc _⟩
    · go_enter Tryz.func130, Tryz.ntmps130
      go_wp2_with fail
      refine (nat_Uint64_yes _ _ _ _ _ (h.ext ((Ext.refl _).alloc _)) (by have := HN.out; omega)).mono ?_
      rintro e w1 ⟨rfl, rfl⟩
      go_wp2_with fail
      refine (nat_Uint64_yes _ _ _ _ _ (g.ext ((Ext.refl _).alloc _)) (by have := HM.out; omega)).mono ?_
      rintro e w1 ⟨rfl, rfl⟩
      go_wp2
      go_ret3
      have hn := HN.out; have hm := HM.out
      exact ⟨-(n : Int), m, rfl, by omega, by omega, by omega, by omega, rfl, (Ext.refl _).alloc _⟩

end Go.Proofs.YtgihpfkjpfanmaaGreat

/- Contract of rational.quotient. -/
namespace Go.Proofs.YtgihpfkjpfanmaaGreat
open Go.RowKit

theorem mkRat_num_natAbs (x : Int) (y : Nat) (h : 0 < y) : (mkRat x y).num.natAbs = x.natAbs / Nat.gcd y x.natAbs := by
  rw [Rat.num_mkRat, if_neg (by omega), Int.natAbs_ediv_of_dvd (Int.ofNat_dvd_left.2 (Nat.gcd_dvd_right _ _)), Int.natAbs_natCast]
theorem mkRat_den' (x : Int) (y : Nat) (h : 0 < y) : (mkRat x y).den = y / Nat.gcd y x.natAbs := by
  rw [Rat.den_mkRat, if_neg (by omega)]
theorem mkRat_num_neg (x : Int) (y : Nat) (h : 0 < y) : decide ((mkRat x y).num < 0) = decide (x < 0) := by
  rw [Rat.num_mkRat, if_neg (by omega)]
  have hg : (0 : Int) < (Nat.gcd y x.natAbs : Nat) := by have := Nat.gcd_pos_of_pos_left x.natAbs h; omega
  have : x / (Nat.gcd y x.natAbs : Nat) < 0 ↔ x < 0 := by
    constructor
    · intro h1
      apply Int.not_le.1; intro h2
      have := Int.ediv_nonneg h2 (Int.le_of_lt hg); omega
    · intro h1; exact Int.ediv_neg_of_neg_of_pos h1 hg
  simp only [this]

/-- What is stored of two new lists of limbs. -/
theorem NewRat.of_parts {w W w2 w3 : World} {a a' : Option Addr} {c c' : Nat} {q : Rat} {n m : Nat} {s : Bool} (hn : q.num.natAbs = n) (hm : q.den = m) (hs : decide (q.num < 0) = s)
    (h : Raw w2 a (len n) c n) (hf : Fr W.heap.size a) (h' : Raw w2 a' (len m) c' m) (hf' : Fr W.heap.size a') (hW : Ext w W) (h2 : Ext W w2)
    (t : Touch w.heap.size W.heap.size w2 w3) : NewRat q w (.returned (.agg #[.bool s, .slice a (len n) c, .slice a' (len m) c'])) w3 := by
  subst hn; subst hm; subst hs
  exact ⟨a, c, a', c', rfl, h.touch t hf.out, hf.mono hW.size, h'.touch t hf'.out, hf'.mono hW.size, hW.touch h2 t⟩

theorem wrap_abs (x : Int) (h1 : -9223372036854775808 < x) (h2 : x < 0) : IntKind.u64.wrap (-IntKind.u64.wrap x) = ((x.natAbs : Nat) : Int) := by
  rw [IntKind.wrap_u64, IntKind.wrap_u64]; omega
theorem wrap_pos (x : Int) (h1 : x < 9223372036854775808) (h2 : ¬ x < 0) : IntKind.u64.wrap x = ((x.natAbs : Nat) : Int) := by
  rw [IntKind.wrap_u64]; omega

set_option maxHeartbeats 2000000 in
set_option maxRecDepth 100000 in
/-- rational.quotient of a negative number. -/
theorem rat_quotient_neg (w : World) (x : Int) (y : Nat) (hx1 : -9223372036854775808 < x) (hx2 : x < 0) (hy0 : 0 < y) (hy : y < 9223372036854775808) :
    Calls Tryz.prog 155 #[.int .i64 x, .int .i64 (y : Nat)] w (NewRat (mkRat x y) w) := by
  have ew := wrap_abs x hx1 hx2
  go_enter Tryz.func155, Tryz.ntmps155
  go_wp2
  obtain ⟨W, hW, x0, Z0, A0⟩ := boxes1 w 55 [.bool false, .slice none 0 0, .slice none 0 0]
  rw [← hW]
  clear hW
  obtain ⟨k0_0, k0_1, k0_2, f0_0, f0_1, f0_2⟩ := box3 A0 (Ext.refl _)
  have z0 := (A0.ext (Ext.refl _)).lt
  go_loopw [6, 7] (fun gg rr wr => ∃ (p r : Nat), 0 < p ∧ p < 9223372036854775808 ∧ r < 9223372036854775808 ∧ Hid (Nat.gcd p r = Nat.gcd y x.natAbs) ∧ Quiet W wr ∧ gg = .int .u64 p ∧ rr = .int .u64 r) (fun _ rr _ => (intOf rr).toNat)
  case atStart => exact ⟨y, x.natAbs, by omega, by omega, by omega, rfl, Quiet.refl _, rfl, rfl⟩
  case round =>
    obtain ⟨p, r, hp0, hp, hr, hg, hq, rfl, rfl⟩ := hrel
    by_cases hr0 : r = 0
    · subst hr0
      have hgp : p = Nat.gcd y x.natAbs := by have := hg.out; rwa [Nat.gcd_zero_right] at this
      have q1 := mkRat_num_natAbs x y hy0
      have q2 := mkRat_den' x y hy0
      have q3 := mkRat_num_neg x y hy0
      rw [← hgp] at q1 q2
      have l1 : x.natAbs / p ≤ x.natAbs := Nat.div_le_self _ _
      have l2 : y / p ≤ y := Nat.div_le_self _ _
      have e1 : IntKind.u64.wrap (((x.natAbs : Nat) : Int) / (p : Int)) = ((x.natAbs / p : Nat) : Int) := by
        rw [IntKind.wrap_u64, ← Int.natCast_ediv]; generalize x.natAbs / p = z at *; omega
      have e2 : IntKind.u64.wrap ((y : Int) / (p : Int)) = ((y / p : Nat) : Int) := by
        rw [IntKind.wrap_u64, ← Int.natCast_ediv]; generalize y / p = z at *; omega
      have e1' : ((x.natAbs : Nat) : Int) / (p : Int) = ((x.natAbs / p : Nat) : Int) := (Int.natCast_ediv _ _).symm
      have e2' : (y : Int) / (p : Int) = ((y / p : Nat) : Int) := (Int.natCast_ediv _ _).symm
      have e1'' : IntKind.u64.wrap ((x.natAbs / p : Nat) : Int) = ((x.natAbs / p : Nat) : Int) := by
        rw [IntKind.wrap_u64]; generalize x.natAbs / p = z at *; omega
      have e2'' : IntKind.u64.wrap ((y / p : Nat) : Int) = ((y / p : Nat) : Int) := by
        rw [IntKind.wrap_u64]; generalize y / p = z at *; omega
      have b1 : x.natAbs / p < 18446744073709551616 := by omega
      have b2 : y / p < 18446744073709551616 := by omega
      clear hgp hg l1 l2
      generalize x.natAbs / p = u at *
      generalize y / p = v at *
      generalize hQ : mkRat x y = Q at *
      have Q1 := Lib.hid q1; have Q2 := Lib.hid q2; have Q3 := Lib.hid q3; have HQ := Lib.hid hQ
      clear q1 q2 q3 hQ
      have hpi : ((p : Int) == 0) = false := by rw [beq_eq_false_iff_ne]; omega
      have h1p : (1 : Int) ≤ (p : Int) := by omega
      have hpne : ((p : Nat) : Int) ≠ 0 := by omega
      obtain ⟨k0_0, k0_1, k0_2, f0_0, f0_1, f0_2⟩ := box3 A0 hq.ext
      have z0 := (A0.ext hq.ext).lt
      have tok1 : True := trivial
      go_wp2
      go_region_with (first
        | (go_at_call 211; have _t := tok1; refine (nat_FromUint64 _ _ (by assumption)).mono ?_; rintro e w1 ⟨a1, c1, rfl, hr1, hf1, hx3⟩; clear tok1 _t; obtain ⟨k0_0, k0_1, k0_2, f0_0, f0_1, f0_2⟩ := box3 A0 ((hq.ext.drew).trans hx3); have z0 := (A0.ext ((hq.ext.drew).trans hx3)).lt)
        | (go_at_call 211; refine (nat_FromUint64 _ _ (by assumption)).mono ?_; rintro e w2 ⟨a2, c2, rfl, hr2, hf2, hx4⟩; obtain ⟨k0_0, k0_1, k0_2, f0_0, f0_1, f0_2⟩ := box3 A0 (((hq.ext.drew).trans hx3).trans hx4); have z0 := (A0.ext (((hq.ext.drew).trans hx3).trans hx4)).lt))
      all_goals go_wp2
      all_goals exact bodyPost_ret (by simp [results, Tryz.results155, go_sem, k0_0, k0_1, k0_2, hx2]) rfl (NewRat.of_parts (s := decide (x < 0)) Q1.out Q2.out Q3.out (hr1.ext hx4) (hf1.mono hq.ext.size) hr2 (hf2.mono (Nat.le_trans hq.ext.size hx3.size)) x0 ((hq.ext.drew.trans hx3).trans hx4) (Touch.three _ (Nat.le_refl _) (by rw [Z0.out]; omega) _ _ _))
    · have hrb : (((r : Nat) : Int) != 0) = true := by rw [bne_iff_ne]; omega
      have e3 : (p : Int).tmod (r : Int) = ((p % r : Nat) : Int) := by rw [Int.tmod_eq_emod_of_nonneg (by omega), Int.natCast_emod]
      have hri : ((r : Int) == 0) = false := by rw [beq_eq_false_iff_ne]; omega
      have h1r : (1 : Int) ≤ (r : Int) := by omega
      have hlt := Nat.mod_lt p (Nat.pos_of_ne_zero hr0)
      have hgg : Nat.gcd r (p % r) = Nat.gcd p r := by rw [Nat.gcd_comm r, ← Nat.gcd_rec, Nat.gcd_comm]
      have HG := Lib.hid hgg; clear hgg
      go_wp2
      go_quiet (fail)
      go_wp2
      go_roundw
      case rel => exact ⟨r, p % r, by omega, by omega, by omega, HG.out.trans hg.out, hq.drewN _, rfl, rfl⟩
      case measure => simp [intOf]; omega

set_option maxHeartbeats 2000000 in
set_option maxRecDepth 100000 in
/-- rational.quotient of a number that is not negative. -/
theorem rat_quotient_pos (w : World) (x : Int) (y : Nat) (hx1 : x < 9223372036854775808) (hx2 : ¬ x < 0) (hy0 : 0 < y) (hy : y < 9223372036854775808) :
    Calls Tryz.prog 155 #[.int .i64 x, .int .i64 (y : Nat)] w (NewRat (mkRat x y) w) := by
  have ew := wrap_pos x hx1 hx2
  go_enter Tryz.func155, Tryz.ntmps155
  go_wp2
  obtain ⟨W, hW, x0, Z0, A0⟩ := boxes1 w 55 [.bool false, .slice none 0 0, .slice none 0 0]
  rw [← hW]
  clear hW
  obtain ⟨k0_0, k0_1, k0_2, f0_0, f0_1, f0_2⟩ := box3 A0 (Ext.refl _)
  have z0 := (A0.ext (Ext.refl _)).lt
  go_loopw [6, 7] (fun gg rr wr => ∃ (p r : Nat), 0 < p ∧ p < 9223372036854775808 ∧ r < 9223372036854775808 ∧ Hid (Nat.gcd p r = Nat.gcd y x.natAbs) ∧ Quiet W wr ∧ gg = .int .u64 p ∧ rr = .int .u64 r) (fun _ rr _ => (intOf rr).toNat)
  case atStart => exact ⟨y, x.natAbs, by omega, by omega, by omega, rfl, Quiet.refl _, rfl, rfl⟩
  case round =>
    obtain ⟨p, r, hp0, hp, hr, hg, hq, rfl, rfl⟩ := hrel
    by_cases hr0 : r = 0
    · subst hr0
      have hgp : p = Nat.gcd y x.natAbs := by have := hg.out; rwa [Nat.gcd_zero_right] at this
      have q1 := mkRat_num_natAbs x y hy0
      have q2 := mkRat_den' x y hy0
      have q3 := mkRat_num_neg x y hy0
      rw [← hgp] at q1 q2
      have l1 : x.natAbs / p ≤ x.natAbs := Nat.div_le_self _ _
      have l2 : y / p ≤ y := Nat.div_le_self _ _
      have e1 : IntKind.u64.wrap (((x.natAbs : Nat) : Int) / (p : Int)) = ((x.natAbs / p : Nat) : Int) := by
        rw [IntKind.wrap_u64, ← Int.natCast_ediv]; generalize x.natAbs / p = z at *; omega
      have e2 : IntKind.u64.wrap ((y : Int) / (p : Int)) = ((y / p : Nat) : Int) := by
        rw [IntKind.wrap_u64, ← Int.natCast_ediv]; generalize y / p = z at *; omega
      have e1' : ((x.natAbs : Nat) : Int) / (p : Int) = ((x.natAbs / p : Nat) : Int) := (Int.natCast_ediv _ _).symm
      have e2' : (y : Int) / (p : Int) = ((y / p : Nat) : Int) := (Int.natCast_ediv _ _).symm
      have e1'' : IntKind.u64.wrap ((x.natAbs / p : Nat) : Int) = ((x.natAbs / p : Nat) : Int) := by
        rw [IntKind.wrap_u64]; generalize x.natAbs / p = z at *; omega
      have e2'' : IntKind.u64.wrap ((y / p : Nat) : Int) = ((y / p : Nat) : Int) := by
        rw [IntKind.wrap_u64]; generalize y / p = z at *; omega
      have b1 : x.natAbs / p < 18446744073709551616 := by omega
      have b2 : y / p < 18446744073709551616 := by omega
      clear hgp hg l1 l2
      generalize x.natAbs / p = u at *
      generalize y / p = v at *
      generalize hQ : mkRat x y = Q at *
      have Q1 := Lib.hid q1; have Q2 := Lib.hid q2; have Q3 := Lib.hid q3; have HQ := Lib.hid hQ
      clear q1 q2 q3 hQ
      have hpi : ((p : Int) == 0) = false := by rw [beq_eq_false_iff_ne]; omega
      have h1p : (1 : Int) ≤ (p : Int) := by omega
      have hpne : ((p : Nat) : Int) ≠ 0 := by omega
      obtain ⟨k0_0, k0_1, k0_2, f0_0, f0_1, f0_2⟩ := box3 A0 hq.ext
      have z0 := (A0.ext hq.ext).lt
      have tok1 : True := trivial
      go_wp2
      go_region_with (first
        | (go_at_call 211; have _t := tok1; refine (nat_FromUint64 _ _ (by assumption)).mono ?_; rintro e w1 ⟨a1, c1, rfl, hr1, hf1, hx3⟩; clear tok1 _t; obtain ⟨k0_0, k0_1, k0_2, f0_0, f0_1, f0_2⟩ := box3 A0 ((hq.ext.drew).trans hx3); have z0 := (A0.ext ((hq.ext.drew).trans hx3)).lt)
        | (go_at_call 211; refine (nat_FromUint64 _ _ (by assumption)).mono ?_; rintro e w2 ⟨a2, c2, rfl, hr2, hf2, hx4⟩; obtain ⟨k0_0, k0_1, k0_2, f0_0, f0_1, f0_2⟩ := box3 A0 (((hq.ext.drew).trans hx3).trans hx4); have z0 := (A0.ext (((hq.ext.drew).trans hx3).trans hx4)).lt))
      all_goals go_wp2
      all_goals exact bodyPost_ret (by simp [results, Tryz.results155, go_sem, k0_0, k0_1, k0_2, hx2]) rfl (NewRat.of_parts (s := decide (x < 0)) Q1.out Q2.out Q3.out (hr1.ext hx4) (hf1.mono hq.ext.size) hr2 (hf2.mono (Nat.le_trans hq.ext.size hx3.size)) x0 ((hq.ext.drew.trans hx3).trans hx4) (Touch.three _ (Nat.le_refl _) (by rw [Z0.out]; omega) _ _ _))
    · have hrb : (((r : Nat) : Int) != 0) = true := by rw [bne_iff_ne]; omega
      have e3 : (p : Int).tmod (r : Int) = ((p % r : Nat) : Int) := by rw [Int.tmod_eq_emod_of_nonneg (by omega), Int.natCast_emod]
      have hri : ((r : Int) == 0) = false := by rw [beq_eq_false_iff_ne]; omega
      have h1r : (1 : Int) ≤ (r : Int) := by omega
      have hlt := Nat.mod_lt p (Nat.pos_of_ne_zero hr0)
      have hgg : Nat.gcd r (p % r) = Nat.gcd p r := by rw [Nat.gcd_comm r, ← Nat.gcd_rec, Nat.gcd_comm]
      have HG := Lib.hid hgg; clear hgg
      go_wp2
      go_quiet (fail)
      go_wp2
      go_roundw
      case rel => exact ⟨r, p % r, by omega, by omega, by omega, HG.out.trans hg.out, hq.drewN _, rfl, rfl⟩
      case measure => simp [intOf]; omega

/-- rational.quotient. -/
theorem rat_quotient (w : World) (x : Int) (y : Nat) (h1 : -9223372036854775808 < x) (h2 : x < 9223372036854775808) (hy0 : 0 < y) (hy : y < 9223372036854775808) :
    Calls Tryz.prog 155 #[.int .i64 x, .int .i64 (y : Nat)] w (NewRat (mkRat x y) w) := by
  by_cases h : x < 0
  · exact rat_quotient_neg w x y h1 h hy0 hy
  · exact rat_quotient_pos w x y h2 h hy0 hy
end Go.Proofs.YtgihpfkjpfanmaaGreat

/- Plain facts for the greatest common divisor by leading digits (Lehmer; the condition of Collins and Jebelean). No program in sight. -/
namespace Go.Proofs.YtgihpfkjpfanmaaGreat

/-- The state of the simulated algorithm: two successive remainders of X and Y, and their cofactors. -/
structure Leh (X Y : Nat) (s : Int) (x y u1 u2 v1 v2 : Nat) : Prop where
  sg : s = 1 ∨ s = -1
  ex : (x : Int) = s * (u1 * X - v1 * Y)
  ey : (y : Int) = s * (v2 * Y - u2 * X)
  det : (u1 : Int) * v2 - u2 * v1 = s
  le : y ≤ x
  uv : u2 ≤ v2
  sum : u1 + u2 ≤ v1 + v2
  pos : 1 ≤ v2

theorem Leh.start {X Y : Nat} (h : Y ≤ X) : Leh X Y 1 X Y 1 0 0 1 :=
  ⟨Or.inl rfl, by simp, by simp, by simp, h, by omega, by omega, by omega⟩

theorem Leh.big {X Y : Nat} {s : Int} {x y u1 u2 v1 v2 : Nat} (h : Leh X Y s x y u1 u2 v1 v2) : v2 * x + v1 * y = X ∧ u2 * x + u1 * y = Y := by
  obtain ⟨hs, ex, ey, det, -, -, -, -⟩ := h
  constructor
  · apply Int.ofNat.inj
    show ((v2 * x + v1 * y : Nat) : Int) = (X : Int)
    push_cast
    rw [ex, ey]
    rcases hs with rfl | rfl <;> grind
  · apply Int.ofNat.inj
    show ((u2 * x + u1 * y : Nat) : Int) = (Y : Int)
    push_cast
    rw [ex, ey]
    rcases hs with rfl | rfl <;> grind

theorem Leh.step {X Y : Nat} {s : Int} {x y u1 u2 v1 v2 : Nat} (h : Leh X Y s x y u1 u2 v1 v2) (h0 : 0 < y) : Leh X Y (-s) y (x % y) u2 (u1 + x / y * u2) v2 (v1 + x / y * v2) := by
  have hm : (x : Int) = (x / y : Nat) * y + (x % y : Nat) := by rw [← Int.natCast_mul, ← Int.natCast_add, Nat.div_add_mod']
  have hq : 1 ≤ x / y := (Nat.le_div_iff_mul_le h0).2 (by have := h.le; omega)
  have hr := Nat.mod_lt x h0
  obtain ⟨hs, ex, ey, det, -, uv, sum, pos⟩ := h
  generalize x / y = q at *
  generalize x % y = r at *
  have h1 : u2 * (q - 1) ≤ v2 * (q - 1) := Nat.mul_le_mul_right _ uv
  obtain ⟨k, rfl⟩ : ∃ k, q = k + 1 := ⟨q - 1, by omega⟩
  simp only [Nat.add_sub_cancel] at h1
  rw [Nat.mul_comm u2, Nat.mul_comm v2] at h1
  refine ⟨by omega, ?_, ?_, ?_, by omega, ?_, ?_, ?_⟩
  · rw [ey]; grind
  · have e : (r : Int) = x - ((k + 1 : Nat) : Int) * y := by omega
    rw [e, ex, ey]; push_cast; grind
  · push_cast; grind
  · rw [Nat.add_mul, Nat.add_mul, Nat.one_mul, Nat.one_mul]; omega
  · rw [Nat.add_mul, Nat.add_mul, Nat.one_mul, Nat.one_mul]; omega
  · rw [Nat.add_mul, Nat.one_mul]; omega

/-- What the cofactors make of the numbers themselves. -/
structure LehOut (a b : Nat) (even : Bool) (u0 v0 u1 v1 A B : Nat) : Prop where
  fst : if even then A + v0 * b = u0 * a else A + u0 * a = v0 * b
  snd : if even then B + u1 * a = v1 * b else B + v1 * b = u1 * a
  le : B ≤ A
  ea : a = v1 * A + v0 * B
  eb : b = u1 * A + u0 * B
  pos : 1 ≤ v1

theorem prod_le {x y E a1 : Int} (hx : 0 ≤ x) (hxy : x ≤ y) (ha : 0 ≤ a1) (hE : a1 ≤ E) : 0 ≤ x * a1 ∧ x * a1 ≤ y * E :=
  ⟨Int.mul_nonneg hx ha, Int.mul_le_mul hxy hE ha (by omega)⟩

theorem Leh.out {X Y a b E a1 b1 : Nat} {s : Int} {x y u1 u2 v1 v2 : Nat} (h : Leh X Y s x y u1 u2 v1 v2) (ha : a = X * E + a1) (hb : b = Y * E + b1) (ha1 : a1 < E) (hb1 : b1 < E)
    (c1 : v2 ≤ y) (c2 : v1 + v2 ≤ x - y) : ∃ A B, LehOut a b (decide (s = 1)) u1 v1 u2 v2 A B := by
  obtain ⟨hs, ex, ey, det, le, uv, sum, pos⟩ := h
  have ha' : (a : Int) = X * E + a1 := by exact_mod_cast ha
  have hb' : (b : Int) = Y * E + b1 := by exact_mod_cast hb
  have p1 := prod_le (x := (u2 : Int)) (y := v2) (E := E) (a1 := a1) (by omega) (by omega) (by omega) (by omega)
  have p2 := prod_le (x := (v2 : Int)) (y := v2) (E := E) (a1 := b1) (by omega) (by omega) (by omega) (by omega)
  have p3 := prod_le (x := ((u1 + u2 : Nat) : Int)) (y := ((v1 + v2 : Nat) : Int)) (E := E) (a1 := a1) (by omega) (by omega) (by omega) (by omega)
  have p4 := prod_le (x := ((v1 + v2 : Nat) : Int)) (y := ((v1 + v2 : Nat) : Int)) (E := E) (a1 := b1) (by omega) (by omega) (by omega) (by omega)
  have q1 : (v2 : Int) * E ≤ y * E := Int.mul_le_mul_of_nonneg_right (by omega) (by omega)
  have q2 : ((v1 + v2 : Nat) : Int) * E ≤ (x - y) * E := Int.mul_le_mul_of_nonneg_right (by omega) (by omega)
  have eB : s * (v2 * b - u2 * a) = y * E + s * (v2 * b1 - u2 * a1) := by rw [ha', hb', ey]; grind
  have eD : s * (u1 * a - v1 * b) - s * (v2 * b - u2 * a) = (x - y) * E + s * (((u1 + u2 : Nat) : Int) * a1 - ((v1 + v2 : Nat) : Int) * b1) := by rw [ha', hb', ex, ey]; push_cast; grind
  have hB : 0 ≤ s * (v2 * b - u2 * a) := by
    rw [eB]; rcases hs with rfl | rfl <;> omega
  have hD : 0 ≤ s * (u1 * a - v1 * b) - s * (v2 * b - u2 * a) := by
    rw [eD]; rcases hs with rfl | rfl <;> omega
  obtain ⟨B, eB'⟩ := Int.eq_ofNat_of_zero_le hB
  obtain ⟨A, eA'⟩ := Int.eq_ofNat_of_zero_le (show 0 ≤ s * (u1 * a - v1 * b) by omega)
  refine ⟨A, B, ?_, ?_, by omega, ?_, ?_, pos⟩
  · rcases hs with rfl | rfl
    · rw [if_pos (by decide)]
      apply Int.ofNat.inj
      show ((A + v1 * b : Nat) : Int) = ((u1 * a : Nat) : Int)
      push_cast; grind
    · rw [if_neg (by decide)]
      apply Int.ofNat.inj
      show ((A + u1 * a : Nat) : Int) = ((v1 * b : Nat) : Int)
      push_cast; grind
  · rcases hs with rfl | rfl
    · rw [if_pos (by decide)]
      apply Int.ofNat.inj
      show ((B + u2 * a : Nat) : Int) = ((v2 * b : Nat) : Int)
      push_cast; grind
    · rw [if_neg (by decide)]
      apply Int.ofNat.inj
      show ((B + v2 * b : Nat) : Int) = ((u2 * a : Nat) : Int)
      push_cast; grind
  · apply Int.ofNat.inj
    show ((a : Nat) : Int) = ((v2 * A + v1 * B : Nat) : Int)
    push_cast
    rw [← eA', ← eB']
    rcases hs with rfl | rfl <;> grind
  · apply Int.ofNat.inj
    show ((b : Nat) : Int) = ((u2 * A + u1 * B : Nat) : Int)
    push_cast
    rw [← eA', ← eB']
    rcases hs with rfl | rfl <;> grind

theorem LehOut.gcd {a b : Nat} {even : Bool} {u0 v0 u1 v1 A B : Nat} (h : LehOut a b even u0 v0 u1 v1 A B) : Nat.gcd A B = Nat.gcd a b := by
  obtain ⟨h1, h2, -, ea, eb, -⟩ := h
  apply Nat.dvd_antisymm
  · have d1 := Nat.gcd_dvd_left A B
    have d2 := Nat.gcd_dvd_right A B
    apply Nat.dvd_gcd
    · rw [ea]; exact Nat.dvd_add (Nat.dvd_mul_left_of_dvd d1 _) (Nat.dvd_mul_left_of_dvd d2 _)
    · rw [eb]; exact Nat.dvd_add (Nat.dvd_mul_left_of_dvd d1 _) (Nat.dvd_mul_left_of_dvd d2 _)
  · have d1 := Nat.gcd_dvd_left a b
    have d2 := Nat.gcd_dvd_right a b
    cases even
    · simp only [Bool.false_eq_true, if_false] at h1 h2
      apply Nat.dvd_gcd
      · exact (Nat.dvd_add_left (Nat.dvd_mul_left_of_dvd d1 u0)).1 (by rw [h1]; exact Nat.dvd_mul_left_of_dvd d2 _)
      · exact (Nat.dvd_add_left (Nat.dvd_mul_left_of_dvd d2 v1)).1 (by rw [h2]; exact Nat.dvd_mul_left_of_dvd d1 _)
    · simp only [if_true] at h1 h2
      apply Nat.dvd_gcd
      · exact (Nat.dvd_add_left (Nat.dvd_mul_left_of_dvd d2 v0)).1 (by rw [h1]; exact Nat.dvd_mul_left_of_dvd d1 _)
      · exact (Nat.dvd_add_left (Nat.dvd_mul_left_of_dvd d1 u1)).1 (by rw [h2]; exact Nat.dvd_mul_left_of_dvd d2 _)

/-- The numbers fall. -/
theorem LehOut.less {a b : Nat} {even : Bool} {u0 v0 u1 v1 A B : Nat} (h : LehOut a b even u0 v0 u1 v1 A B) (h0 : v0 ≠ 0) (hb : 0 < b) : A + B < a + b := by
  have := h.ea
  have h1 : A ≤ v1 * A := Nat.le_mul_of_pos_left _ h.pos
  have h2 : B ≤ v0 * B := Nat.le_mul_of_pos_left _ (by omega)
  omega

end Go.Proofs.YtgihpfkjpfanmaaGreat

/- Contracts of the program's natural.window and its closure. -/
namespace Go.Proofs.YtgihpfkjpfanmaaGreat
open Go.RowKit

theorem nat_window_limb (w : World) (p : Addr) (a : Option Addr) (k c i : Nat) (l : List Nat) (hp : w.cell? p = some (.slice a k c)) (hl : l.length = k) (h : Limbs w a c l) :
    Calls Tryz.prog 240 #[.int .i64 (i : Nat), .pointer (some p)] w fun e w' => e = .returned (.int .u64 (limb l i : Nat)) ∧ w = w' := by
  have h1 := h.le
  have h2 := h.short
  by_cases hi : i < k
  · obtain ⟨b, o, rfl⟩ := h.at (by omega)
    have hc := h.cellAt i (by omega)
    have hx := limb_lt h.small i
    have HL := Lib.hid hl; clear hl
    go_enter Tryz.func240, Tryz.ntmps240
    go_wp2
    go_ret
    exact ⟨rfl, rfl⟩
  · have HZ := Lib.hid (limb_ge (l := l) (i := i) (by omega))
    have HL := Lib.hid hl; clear hl
    go_enter Tryz.func240, Tryz.ntmps240
    go_wp2
    go_ret
    exact ⟨ret_int (by rw [HZ.out]; rfl), rfl⟩

/-- The upper 64 binary digits. -/
theorem win_val {l : List Nat} {n s : Nat} (hs : Small l) (hl : l.length ≤ n) (h3 : 3 ≤ n) (hlt : s < 32) :
    val l / 2 ^ (32 * (n - 2) - s) = (limb l (n - 2) + 4294967296 * limb l (n - 1)) * 2 ^ s + limb l (n - 3) / 2 ^ (32 - s) := by
  have e0 : val (l ++ List.replicate (n - l.length) 0) = val l := by rw [val_append, val_replicate, Nat.mul_zero, Nat.add_zero]
  have el : ∀ i, limb (l ++ List.replicate (n - l.length) 0) i = limb l i := by
    intro i
    by_cases hi : i < l.length
    · exact limb_append_left hi
    · rw [limb_ge (l := l) (by omega)]
      unfold limb
      rw [List.getElem?_append_right (by omega)]
      exact limb_replicate _ _
  have sl : Small (l ++ List.replicate (n - l.length) 0) := hs.append (Small.replicate _)
  have ll : (l ++ List.replicate (n - l.length) 0).length = n := by simp; omega
  generalize l ++ List.replicate (n - l.length) 0 = X at *
  have e1 := val_top3 (X := X) (t := n - 3) (by omega)
  have hlo := val_take_lt sl (t := n - 3) (by omega)
  rw [el, el, el, show n - 3 + 1 = n - 2 from by omega, show n - 3 + 2 = n - 1 from by omega] at e1
  rw [← e0, show 32 * (n - 2) - s = 32 * (n - 3) + (32 - s) from by omega, Nat.pow_add, ← Nat.div_div_eq_div_mul, ← pow_eq, e1, Nat.add_mul_div_left _ _ (Nat.pow_pos (by decide)), Nat.div_eq_of_lt hlo, Nat.zero_add]
  have e2 : ∀ Z, 4294967296 * Z = 2 ^ (32 - s) * (Z * 2 ^ s) := by
    intro Z
    rw [Nat.mul_left_comm, ← Nat.pow_add, show 32 - s + s = 32 from by omega, Nat.mul_comm]
  rw [e2 (limb l (n - 2) + 4294967296 * limb l (n - 1)), Nat.add_mul_div_left _ _ (Nat.two_pow_pos _), Nat.add_comm]

theorem win_or {l : List Nat} {n s : Nat} (hs : Small l) (hl : l.length ≤ n) (h3 : 3 ≤ n) (hlt : s < 32) (hb : val l < 2 ^ (32 * n - s)) :
    bits BinOp.or IntKind.u64 (IntKind.u64.wrap (((limb l (n - 2) + 4294967296 * limb l (n - 1) : Nat) : Int) * 2 ^ s)) (((limb l (n - 3) : Nat) : Int) / 2 ^ (32 - s)) = ((val l / 2 ^ (32 * (n - 2) - s) : Nat) : Int) ∧ val l / 2 ^ (32 * (n - 2) - s) < 18446744073709551616 := by
  have e := win_val hs hl h3 hlt
  have hv : val l / 2 ^ (32 * (n - 2) - s) < 18446744073709551616 := by
    rw [Nat.div_lt_iff_lt_mul (Nat.two_pow_pos _), show (18446744073709551616 : Nat) = 2 ^ 64 from by decide, ← Nat.pow_add, show 64 + (32 * (n - 2) - s) = 32 * n - s from by omega]
    exact hb
  refine ⟨?_, hv⟩
  rw [e] at hv ⊢
  have hx := limb_lt hs (n - 3)
  have h5 : limb l (n - 3) / 2 ^ (32 - s) < 2 ^ s := by
    rw [Nat.div_lt_iff_lt_mul (Nat.two_pow_pos _), ← Nat.pow_add, show s + (32 - s) = 32 from by omega]; exact hx
  have e2 : (((limb l (n - 3) : Nat) : Int) / 2 ^ (32 - s)) = ((limb l (n - 3) / 2 ^ (32 - s) : Nat) : Int) := by rw [Int.natCast_ediv, Int.natCast_pow]; rfl
  have e3 : (((limb l (n - 2) + 4294967296 * limb l (n - 1) : Nat) : Int) * 2 ^ s) = (((limb l (n - 2) + 4294967296 * limb l (n - 1)) * 2 ^ s : Nat) : Int) := by rw [Int.natCast_mul, Int.natCast_pow]; rfl
  rw [e2, e3]
  generalize limb l (n - 2) + 4294967296 * limb l (n - 1) = y at *
  generalize limb l (n - 3) / 2 ^ (32 - s) = z at *
  have e4 : IntKind.u64.wrap ((y * 2 ^ s : Nat) : Int) = ((y * 2 ^ s : Nat) : Int) := by
    rw [IntKind.wrap_u64]
    generalize y * 2 ^ s = t at *
    omega
  rw [e4, u64_or_nat _ _ (by omega) (by omega)]
  have := Nat.shiftLeft_add_eq_or_of_lt h5 y
  rw [Nat.shiftLeft_eq] at this
  rw [← this]

set_option maxHeartbeats 1000000 in
set_option maxRecDepth 100000 in
theorem nat_window (w : World) (a : Option Addr) (k c m n s : Nat) (h : Raw w a k c m) (hk : k ≤ n) (hn : n < 1000000000) (h3 : 3 ≤ n) (hs : s < 32) (hb : m < 2 ^ (32 * n - s)) :
    Calls Tryz.prog 236 #[.slice a k c, .int .i64 (n : Nat), .int .i64 (s : Nat)] w fun e w' => e = .returned (.int .u64 (m / 2 ^ (32 * (n - 2) - s) : Nat)) ∧ Ext w w' := by
  obtain ⟨l, hl, hv, hA⟩ := h
  rw [← hv] at hb
  have HW := Lib.hid (win_or hA.small (by omega) h3 hs hb)
  have b1 := limb_lt hA.small (n - 1)
  have b2 := limb_lt hA.small (n - 2)
  have b3 := limb_lt hA.small (n - 3)
  have HL := Lib.hid hl; have HV := Lib.hid hv; clear hl hv hb
  go_enter Tryz.func236, Tryz.ntmps236
  go_wp2_with fail
  have hx0 : Ext w (w.alloc (Obj.cells #[Value.slice a k c] 51)) := (Ext.refl _).alloc _
  have hcell : (w.alloc (Obj.cells #[Value.slice a k c] 51)).cell? ⟨w.heap.size, 0, none⟩ = some (.slice a k c) := (Arr.alloc w 51 [.slice a k c]).cell 0
  generalize w.alloc (Obj.cells #[Value.slice a k c] 51) = W at hx0 hcell ⊢
  have cl : ∀ q i : Nat, Calls Tryz.prog 240 #[.int .i64 (i : Nat), .pointer (some ⟨w.heap.size, 0, none⟩)] (W.drewN q) fun e w' => e = .returned (.int .u64 (limb l i : Nat)) ∧ w' = W.drewN q := by
    intro q i
    exact (nat_window_limb (W.drewN q) ⟨w.heap.size, 0, none⟩ a k c i l (by rw [← hcell]; rfl) HL.out ((hA.ext hx0).ext ((Ext.refl _).drewN q))).mono (fun e w' ⟨h1, h2⟩ => ⟨h1, h2.symm⟩)
  have CL := Lib.hid cl; clear cl
  have e1 : IntKind.i64.wrap ((n : Int) - 1) = ((n - 1 : Nat) : Int) := by rw [IntWalk.i64_in _ (by omega)]; omega
  have e2 : IntKind.i64.wrap ((n : Int) - 2) = ((n - 2 : Nat) : Int) := by rw [IntWalk.i64_in _ (by omega)]; omega
  have e3 : IntKind.i64.wrap ((n : Int) - 3) = ((n - 3 : Nat) : Int) := by rw [IntWalk.i64_in _ (by omega)]; omega
  have e4 : IntKind.i64.wrap (32 - (s : Int)) = ((32 - s : Nat) : Int) := by rw [IntWalk.i64_in _ (by omega)]; omega
  have hor := or_lo (limb l (n - 1)) (limb l (n - 2)) b1 b2
  go_quiet ((go_at_call 240; exact Calls.quiet_of_same (CL.out _ _)))
  clear e1 e2 e3 e4
  go_wp2_with fail
  go_ret
  refine ⟨ret_int ?_, hx0.drewN _⟩
  have hW := HW.out.1
  rw [HV.out] at hW
  simp only [Int.natCast_add, Int.natCast_mul] at hW
  exact hW

set_option maxHeartbeats 400000 in
theorem nat_combine (w : World) (a b : Option Addr) (k k' c c' n m x y : Nat) (ha : Raw w a k c n) (hb : Raw w b k' c' m) (h1 : len n < 900000000) (h2 : len m < 900000000) (hx : x < 18446744073709551616) (hy : y < 18446744073709551616) (hle : m * y ≤ n * x) :
    Calls Tryz.prog 231 #[.slice a k c, .int .u64 (x : Nat), .slice b k' c', .int .u64 (y : Nat)] w (NewNat (n * x - m * y) w) := by
  have lx := len_le_two.2 hx
  have ly := len_le_two.2 hy
  go_enter Tryz.func231, Tryz.ntmps231
  go_wp2_with fail
  refine (nat_FromUint64 _ _ hx).mono ?_
  rintro e w1 ⟨a1, c1, rfl, r1, f1, x1⟩
  go_wp2_with fail
  refine (nat_Mul _ _ _ _ _ _ _ _ _ (ha.ext x1) r1 (by omega) (by omega)).mono ?_
  rintro e w2 ⟨a2, c2, rfl, r2, f2, x2⟩
  go_wp2_with fail
  refine (nat_FromUint64 _ _ hy).mono ?_
  rintro e w3 ⟨a3, c3, rfl, r3, f3, x3⟩
  go_wp2_with fail
  refine (nat_Mul _ _ _ _ _ _ _ _ _ (((hb.ext x1).ext x2).ext x3) r3 (by omega) (by omega)).mono ?_
  rintro e w4 ⟨a4, c4, rfl, r4, f4, x4⟩
  go_wp2_with fail
  refine (nat_Sub _ _ _ _ _ _ _ _ _ ((r2.ext x3).ext x4) r4 hle).mono ?_
  rintro e w5 ⟨a5, c5, rfl, r5, f5, x5⟩
  go_wp2_with fail
  go_ret
  have hx4 := (((x1.trans x2).trans x3).trans x4)
  exact ⟨_, _, rfl, r5, f5.mono hx4.size, hx4.trans x5⟩
end Go.Proofs.YtgihpfkjpfanmaaGreat
