/- Texts of the proof: Fa1, Fa2, Fa3. -/
import Derived.Test.YtgihpfkjpfanmaaGreatGK
import Derived.Test.YtgihpfkjpfanmaaGreatGO
/- SettlementFair: plain facts. -/
namespace Go.Proofs.YtgihpfkjpfanmaaGreat
open Go.RowKit

/-- At most L places of limbs each. -/
def RShort (rs : List RVal) (L : Nat) : Prop := ∀ k (hk : k < rs.length), rs[k].k ≤ L ∧ rs[k].j ≤ L
theorem RShort.nil (L : Nat) : RShort [] L := fun _ hk => absurd hk (Nat.not_lt_zero _)
theorem RShort.snoc {rs : List RVal} {L : Nat} (h : RShort rs L) {r : RVal} (h1 : r.k ≤ L) (h2 : r.j ≤ L) : RShort (rs ++ [r]) L := by
  intro k hk
  rw [List.length_append, List.length_singleton] at hk
  by_cases hk' : k < rs.length
  · rw [List.getElem_append_left hk']; exact h k hk'
  · obtain rfl : k = rs.length := by omega
    rw [List.getElem_append_right (Nat.le_refl _)]
    simp only [Nat.sub_self, List.getElem_singleton]
    exact ⟨h1, h2⟩
theorem IsCan.short {w : World} {r : RVal} {q : Rat} {B L : Nat} (h : IsCan w r q B) (hl : rsz q ≤ L) : r.k ≤ L ∧ r.j ≤ L := by
  have h1 := rsz_num q
  have h2 := rsz_den q
  rw [h.k, h.j]; omega

/-- What Apportion makes of numbers with the sum 0. -/
structure FairLaw (qs : List Rat) (out : List Int) : Prop where
  len : out.length = qs.length
  sum : isum out = 0
  each : ∀ i (hi : i < qs.length), out[i]?.getD 0 = qs[i].floor ∨ (out[i]?.getD 0 = qs[i].floor + 1 ∧ ¬ qs[i] - ((qs[i].floor : Int) : Rat) = 0)
  fair : ∀ i k (hi : i < qs.length) (hk : k < qs.length), qs[i] < ((out[i]?.getD 0 : Int) : Rat) → ((out[k]?.getD 0 : Int) : Rat) < qs[k] → ¬ (qs[i] - ((qs[i].floor : Int) : Rat) < qs[k] - ((qs[k].floor : Int) : Rat) ∨ (qs[i] - ((qs[i].floor : Int) : Rat) = qs[k] - ((qs[k].floor : Int) : Rat) ∧ k < i))

open Classical in
theorem fair_law (qs : List Rat) (h0 : qsum qs = 0) : FairLaw qs (apOut qs) := by
  have h : qsum qs = ((0 : Int) : Rat) := h0
  obtain ⟨-, h2⟩ := miss_eq qs 0 h
  have hc := List.countP_le_length (p := fun q : Rat => decide (((q.floor : Int) : Rat) < q)) (l := qs)
  refine ⟨apOut_length qs, apOut_sum qs 0 h, ?_, ?_⟩
  · intro i hi
    rw [apOut_get qs 0 h i hi]
    by_cases hu : Up (fracs qs) qs.length (apMiss qs) i
    · rw [if_pos hu]
      refine Or.inr ⟨rfl, fun e => whole_not_up qs 0 h i hi ?_ hu⟩
      grind
    · rw [if_neg hu]; exact Or.inl (by omega)
  · intro i k hi hk hA hB hC
    rw [apOut_get qs 0 h i hi] at hA
    rw [apOut_get qs 0 h k hk] at hB
    have hu : Up (fracs qs) qs.length (apMiss qs) i := by
      apply Classical.byContradiction
      intro hu
      rw [if_neg hu, Int.add_zero] at hA
      have := Rat.floor_le qs[i]
      exact absurd hA (Rat.not_lt.2 this)
    have hv : ¬ Up (fracs qs) qs.length (apMiss qs) k := by
      intro hv
      rw [if_pos hv, Rat.intCast_add] at hB
      have := Rat.lt_floor_add_one qs[k]
      have e : ((1 : Int) : Rat) = 1 := rfl
      grind
    refine hv (up_before (by omega) hk hu ?_)
    unfold apLt
    rw [fracs_get qs i hi, fracs_get qs k hk]
    exact hC

end Go.Proofs.YtgihpfkjpfanmaaGreat

/- law40.awake. -/
namespace Go.Proofs.YtgihpfkjpfanmaaGreat
open Go.RowKit

/-- The first place in order, if no other number has a greater part. -/
theorem apAt_first (fs : List Rat) (n : Nat) (hn : 0 < n) (h : ∀ i, i < n → fs[i]?.getD 0 ≤ fs[0]?.getD 0) : apAt fs n 0 = 0 := by
  obtain ⟨k, hk, he⟩ := apAt_surj fs n 0 hn
  rcases Nat.eq_zero_or_pos k with rfl | hp
  · exact he
  · have h1 := apAt_mono fs n 0 k hp hk
    rw [he] at h1
    have h2 := h _ (apAt_lt fs n 0 hn)
    unfold apLt at h1
    rcases h1 with h1 | ⟨_, h1⟩
    · exact absurd h1 (Rat.not_lt.2 h2)
    · omega

theorem out_half : apOut [mkRat 1 2, mkRat 1 2, ((-1 : Int) : Rat)] = [1, 0, -1] := by
  have e2 : mkRat 1 2 = (1 : Rat) / 2 := by rw [Rat.mkRat_eq_div]; rfl
  have e1 : ((-1 : Int) : Rat) = -1 := rfl
  have z0 : ((0 : Int) : Rat) = 0 := rfl
  have f1 : (mkRat 1 2).floor = 0 := floor_of (by rw [e2, z0]; grind) (by rw [e2, z0]; grind)
  have f2 : (((-1 : Int) : Rat)).floor = -1 := Rat.floor_intCast _
  have hs : qsum [mkRat 1 2, mkRat 1 2, ((-1 : Int) : Rat)] = ((0 : Int) : Rat) := by
    rw [e2, e1]; simp only [qsum, List.foldl]
    have : ((0 : Int) : Rat) = 0 := rfl
    grind
  have hz : apAt (fracs [mkRat 1 2, mkRat 1 2, ((-1 : Int) : Rat)]) 3 0 = 0 := by
    refine apAt_first _ 3 (by decide) ?_
    intro i hi
    have z0 : ((0 : Int) : Rat) = 0 := rfl
    rcases (show i = 0 ∨ i = 1 ∨ i = 2 by omega) with rfl | rfl | rfl
    · exact Rat.le_refl
    · simp [fracs]
    · simp only [fracs, List.map_cons, List.map_nil, List.getElem?_cons_succ, List.getElem?_cons_zero, Option.getD_some, f1, f2]
      rw [e2, e1, z0]; grind
  unfold apOut
  rw [hs, Rat.floor_intCast]
  simp only [List.length_cons, List.length_nil, Nat.reduceAdd, List.map_cons, List.map_nil, f1, f2]
  rw [show ((0 : Int) - isum [0, 0, -1]).toNat = 1 by decide]
  simp only [apInc]
  rw [hz]
  rfl

theorem out_third : apOut [mkRat 1 3, mkRat 1 3, mkRat 1 3] = [1, 0, 0] := by
  have e3 : mkRat 1 3 = (1 : Rat) / 3 := by rw [Rat.mkRat_eq_div]; rfl
  obtain ⟨h1, h2, h3⟩ := three_out (mkRat 1 3) 1 0 (by rw [e3, show ((1 : Int) : Rat) = 1 from rfl]; grind) (by rw [e3, show ((0 : Int) : Rat) = 0 from rfl]; grind) (by rw [e3, show ((0 : Int) : Rat) = 0 from rfl]; grind)
  rw [h1]
  simp [apInc, h2]

theorem lit_rats3 {w : World} {r1 r2 r3 : RVal} {q1 q2 q3 : Rat} {L b : Nat} {T : TypeId} (h1 : IsRat w r1 q1 L) (h2 : IsRat w r2 q2 L) (h3 : IsRat w r3 q3 L) (hA : Arr w b T (ratCells [r1, r2, r3])) :
    Rats w (some ⟨b, 0, none⟩) 3 [r1, r2, r3] [q1, q2, q3] L := by
  refine ⟨rfl, by simp, by decide, by simp, ?_, ?_⟩
  · intro i hi
    refine ⟨b, 0, rfl, ?_, ?_, ?_⟩
    · rw [Nat.zero_add, hA.cell]; exact ratCells_get _ i 0 hi (by decide)
    · rw [Nat.zero_add, hA.cell]; exact ratCells_get _ i 1 hi (by decide)
    · rw [Nat.zero_add, hA.cell]; exact ratCells_get _ i 2 hi (by decide)
  · intro i hi
    have hi' : i < 3 := hi
    rcases (show i = 0 ∨ i = 1 ∨ i = 2 by omega) with rfl | rfl | rfl
    · exact h1
    · exact h2
    · exact h3

theorem apOk_small {q : Rat} (h1 : q ≤ 1000000) (h2 : -1000000 ≤ q) : apOk q := by
  unfold apOk apMost
  have : ((281474976710656 : Int) : Rat) = 281474976710656 := rfl
  constructor <;> grind

set_option maxHeartbeats 4000000 in
theorem law40_awake (w : World) : Calls Tryz.prog 35 #[] w fun e w' => e = .returned (.bool true) ∧ Ext w w' := by
  have hH : ∀ V, Calls Tryz.prog 39 #[.int .i64 1, .int .i64 2] V (NewRat (mkRat 1 2) V) := fun V => r3_Of V 1 2 (by decide) (by decide) (by decide)
  have hT : ∀ V, Calls Tryz.prog 39 #[.int .i64 1, .int .i64 3] V (NewRat (mkRat 1 3) V) := fun V => r3_Of V 1 3 (by decide) (by decide) (by decide)
  have hM : ∀ V, Calls Tryz.prog 32 #[.int .i64 (-1)] V (NewRat ((-1 : Int) : Rat) V) := fun V => r3_FromInt V (-1) (by decide) (by decide)
  have e2 : mkRat 1 2 = (1 : Rat) / 2 := by rw [Rat.mkRat_eq_div]; rfl
  have e3 : mkRat 1 3 = (1 : Rat) / 3 := by rw [Rat.mkRat_eq_div]; rfl
  have e1 : ((-1 : Int) : Rat) = -1 := rfl
  have l2 : rsz (mkRat 1 2) ≤ 2 := by have := rsz_mkRat 1 2; have h1 : len (1 : Int).natAbs ≤ 2 := by decide
                                      have h2 : len 2 ≤ 2 := by decide
                                      omega
  have l3 : rsz (mkRat 1 3) ≤ 2 := by have := rsz_mkRat 1 3; have h1 : len (1 : Int).natAbs ≤ 2 := by decide
                                      have h2 : len 3 ≤ 2 := by decide
                                      omega
  have l1 : rsz ((-1 : Int) : Rat) ≤ 2 := by rw [rsz_int]; decide
  have k2 : apOk (mkRat 1 2) := apOk_small (by rw [e2]; grind) (by rw [e2]; grind)
  have k3 : apOk (mkRat 1 3) := apOk_small (by rw [e3]; grind) (by rw [e3]; grind)
  have k1 : apOk ((-1 : Int) : Rat) := apOk_small (by rw [e1]; grind) (by rw [e1]; grind)
  have hs : qsum [mkRat 1 2, mkRat 1 2, ((-1 : Int) : Rat)] = ((0 : Int) : Rat) := by
    rw [e2, e1]; simp only [qsum, List.foldl]
    have : ((0 : Int) : Rat) = 0 := rfl
    grind
  have hs3 : qsum [mkRat 1 3, mkRat 1 3, mkRat 1 3] = ((1 : Int) : Rat) := by rw [qsum_three, e3, show ((1 : Int) : Rat) = 1 from rfl]; grind
  have o1 := out_half
  have o2 := out_third
  generalize mkRat 1 2 = p at *
  generalize mkRat 1 3 = q at *
  generalize ((-1 : Int) : Rat) = m at *
  have HH := Lib.hid hH; have HT := Lib.hid hT; have HM := Lib.hid hM; have HS := Lib.hid hs; have HS3 := Lib.hid hs3
  have O1 := Lib.hid o1; have O2 := Lib.hid o2
  clear hH hT hM hs hs3 o1 o2 e1 e2 e3
  go_enter Tryz.func35, Tryz.ntmps35
  go_wp2_with fail
  refine (HH.out _).mono ?_
  intro e w1 hN; obtain ⟨r1, rfl, hr1, x1⟩ := hN.isCan; clear hN
  go_wp2_with fail
  refine (HH.out _).mono ?_
  intro e w2 hN; obtain ⟨r2, rfl, hr2, x2⟩ := hN.isCan; clear hN
  go_wp2_with fail
  refine (HM.out _).mono ?_
  intro e w3 hN; obtain ⟨r3, rfl, hr3, x3⟩ := hN.isCan; clear hN
  go_wp2_with fail
  obtain ⟨V, hV, xv, Zv, Av⟩ := boxes1 w3 55 (ratCells [r1, r2, r3])
  have hV' : V = w3.alloc (.cells #[.bool r1.s, .slice r1.a r1.k r1.c, .slice r1.b r1.j r1.d, .bool r2.s, .slice r2.a r2.k r2.c, .slice r2.b r2.j r2.d, .bool r3.s, .slice r3.a r3.k r3.c, .slice r3.b r3.j r3.d] 55) := hV
  rw [← hV']
  clear hV hV'
  have hRs := lit_rats3 ((hr1.isRat.mono l2).ext ((x2.trans x3).trans xv)) ((hr2.isRat.mono l2).ext (x3.trans xv)) ((hr3.isRat.mono l1).ext xv) Av
  have hap := ap_main V _ 3 2 _ _ hRs (by simp) (by simp) (by decide) (by
    intro i hi
    have hi' : i < 3 := hi
    rcases (show i = 0 ∨ i = 1 ∨ i = 2 by omega) with rfl | rfl | rfl
    · exact k2
    · exact k2
    · exact k1) (by rw [HS.out, Rat.floor_intCast])
  rw [O1.out] at hap
  have HAP := Lib.hid hap
  clear hap hRs
  refine HAP.out.mono ?_
  rintro e w4 ⟨p4, rfl, hp4, hA4, x4⟩
  go_wp2_with fail
  refine (HT.out _).mono ?_
  intro e w5 hN; obtain ⟨r5, rfl, hr5, x5⟩ := hN.isCan; clear hN
  go_wp2_with fail
  refine (HT.out _).mono ?_
  intro e w6 hN; obtain ⟨r6, rfl, hr6, x6⟩ := hN.isCan; clear hN
  go_wp2_with fail
  refine (HT.out _).mono ?_
  intro e w7 hN; obtain ⟨r7, rfl, hr7, x7⟩ := hN.isCan; clear hN
  go_wp2_with fail
  obtain ⟨U, hU, xu, Zu, Au⟩ := boxes1 w7 55 (ratCells [r5, r6, r7])
  have hU' : U = w7.alloc (.cells #[.bool r5.s, .slice r5.a r5.k r5.c, .slice r5.b r5.j r5.d, .bool r6.s, .slice r6.a r6.k r6.c, .slice r6.b r6.j r6.d, .bool r7.s, .slice r7.a r7.k r7.c, .slice r7.b r7.j r7.d] 55) := hU
  rw [← hU']
  clear hU hU'
  have hRs := lit_rats3 ((hr5.isRat.mono l3).ext ((x6.trans x7).trans xu)) ((hr6.isRat.mono l3).ext (x7.trans xu)) ((hr7.isRat.mono l3).ext xu) Au
  have hap := ap_main U _ 3 2 _ _ hRs (by simp) (by simp) (by decide) (by
    intro i hi
    have hi' : i < 3 := hi
    rcases (show i = 0 ∨ i = 1 ∨ i = 2 by omega) with rfl | rfl | rfl <;> exact k3) (by rw [HS3.out, Rat.floor_intCast])
  rw [O2.out] at hap
  have HAP := Lib.hid hap
  clear hap hRs
  refine HAP.out.mono ?_
  rintro e w8 ⟨p8, rfl, hp8, hA8, x8⟩
  have hA4' := hA4.ext ((((x5.trans x6).trans x7).trans xu).trans x8)
  have xw : Ext w w8 := ((((((((x1.trans x2).trans x3).trans xv).trans x4).trans x5).trans x6).trans x7).trans xu).trans x8
  clear hA4 x1 x2 x3 xv x4 x5 x6 x7 xu x8
  go_wp2_with fail
  have y5 := (Ext.refl w8).alloc (.cells #[.int .i64 1, .int .i64 0, .int .i64 (-1)] 3)
  refine (r18_Ints_same _ _ _ _ _ [1, 0, -1] (arr_ints (hA4'.ext y5)) (arr_ints (Arr.alloc w8 3 (i64s [1, 0, -1]))) (by decide)).mono ?_
  rintro e w9 ⟨rfl, y9⟩
  go_wp2_with fail
  have y10 := (Ext.refl w9).alloc (.cells #[.int .i64 1, .int .i64 0, .int .i64 0] 3)
  refine (r18_Ints_same _ _ _ _ _ [1, 0, 0] (arr_ints (hA8.ext ((y5.trans y9).trans y10))) (arr_ints (Arr.alloc w9 3 (i64s [1, 0, 0]))) (by decide)).mono ?_
  rintro e w11 ⟨rfl, y11⟩
  go_wp2_with fail
  go_ret
  exact ⟨rfl, (((xw.trans y5).trans y9).trans y10).trans y11⟩

end Go.Proofs.YtgihpfkjpfanmaaGreat

/- SettlementFair: plain facts of its numbers. -/
namespace Go.Proofs.YtgihpfkjpfanmaaGreat
open Go.RowKit

def faN (x : Int) : Int := modU x 2001 - 1000
def faQ (d : Nat) (x : Int) : Rat := mkRat (faN x) d
def faS (xs : List Int) : Int := isum (xs.map faN)
def faL (d : Nat) (xs : List Int) : List Rat := xs.map (faQ d) ++ [mkRat (-(faS xs)) d]

theorem faN_range (x : Int) : -1000 ≤ faN x ∧ faN x ≤ 1000 := by
  have := modU_range x 2001 (by omega)
  unfold faN; omega
theorem faS_take (xs : List Int) (j : Nat) (h : j < xs.length) : faS (xs.take (j + 1)) = faS (xs.take j) + faN xs[j] := by
  unfold faS isum
  rw [List.take_succ_eq_append_getElem h, List.map_append, List.sum_append]; simp
theorem faS_bound (xs : List Int) : -(1000 * (xs.length : Int)) ≤ faS xs ∧ faS xs ≤ 1000 * (xs.length : Int) := by
  unfold faS
  induction xs with
  | nil => simp [isum]
  | cons a l ih =>
    have := faN_range a
    rw [List.map_cons, isum_cons, List.length_cons]; omega
theorem qsum_snoc (l : List Rat) (q : Rat) : qsum (l ++ [q]) = qsum l + q := by
  unfold qsum; rw [List.foldl_append]; rfl
theorem mkRat_scale (z : Int) (d : Nat) (hd : 0 < d) : ((d : Nat) : Rat) * mkRat z d = ((z : Int) : Rat) := by
  rw [Rat.mkRat_eq_div]
  have h0 : ¬ ((d : Nat) : Rat) = 0 := by
    intro h
    have h2 : ((d : Nat) : Rat) = ((0 : Nat) : Rat) := h
    have := Rat.natCast_inj.1 h2
    omega
  rw [Rat.mul_comm, Rat.div_mul_cancel h0]
theorem faQ_sum (d : Nat) (hd : 0 < d) (xs : List Int) : ((d : Nat) : Rat) * qsum (xs.map (faQ d)) = ((faS xs : Int) : Rat) := by
  unfold faS
  induction xs with
  | nil => simp [qsum, isum, Rat.mul_zero]
  | cons a l ih =>
    rw [List.map_cons, List.map_cons, qsum_cons, isum_cons, Rat.intCast_add, ← ih, ← mkRat_scale (faN a) d hd]
    unfold faQ
    grind
theorem faL_sum (d : Nat) (hd : 0 < d) (xs : List Int) : qsum (faL d xs) = 0 := by
  unfold faL
  rw [qsum_snoc]
  have h1 := faQ_sum d hd xs
  have h2 := mkRat_scale (-(faS xs)) d hd
  rw [Rat.intCast_neg] at h2
  have h0 : ¬ ((d : Nat) : Rat) = 0 := by
    intro h
    have h2 : ((d : Nat) : Rat) = ((0 : Nat) : Rat) := h
    have := Rat.natCast_inj.1 h2
    omega
  generalize qsum (xs.map (faQ d)) = a at *
  generalize mkRat (-(faS xs)) d = b at *
  have h3 : ((d : Nat) : Rat) * (a + b) = 0 := by rw [Rat.mul_add, h1, h2]; grind
  rcases Rat.mul_eq_zero.1 h3 with h | h
  · exact absurd h h0
  · exact h
theorem cmpZ_pos_iff {x y : Int} : 0 < cmpZ x y ↔ y < x := by
  unfold cmpZ; split
  · omega
  · split <;> omega
theorem mkRat_small (z : Int) (d : Nat) (hd : 0 < d) (h1 : -100000 ≤ z) (h2 : z ≤ 100000) : apOk (mkRat z d) := by
  have a1 := cmpQ_mkRat z 1000000 d 1 hd (by decide)
  have a2 := cmpQ_mkRat z (-1000000) d 1 hd (by decide)
  have e1 : mkRat 1000000 1 = (1000000 : Rat) := by rw [Rat.mkRat_one]; rfl
  have e2 : mkRat (-1000000) 1 = (-1000000 : Rat) := by rw [Rat.mkRat_one]; rfl
  rw [e1] at a1
  rw [e2] at a2
  refine apOk_small ?_ ?_
  · apply Rat.not_lt.1
    intro hh
    have := cmpQ_gt.2 hh
    rw [a1, cmpZ_pos_iff] at this
    omega
  · apply Rat.not_lt.1
    intro hh
    have := cmpQ_lt.2 hh
    rw [a2, cmpZ_neg_iff] at this
    omega
theorem mkRat_short (z : Int) (d : Nat) (hd : d ≤ 100) (h1 : -100000 ≤ z) (h2 : z ≤ 100000) : rsz (mkRat z d) ≤ 2 := by
  have h := rsz_mkRat z d
  have h3 : len z.natAbs ≤ 2 := len_natAbs_i64 (by omega) (by omega)
  have h4 : len d ≤ 2 := len_le_two.2 (by omega)
  omega
theorem faL_ok (d : Nat) (hd : 0 < d) (xs : List Int) (hs : xs.length ≤ 40) : ∀ q ∈ faL d xs, apOk q := by
  intro q hq
  unfold faL at hq
  rcases List.mem_append.1 hq with h | h
  · obtain ⟨x, _, rfl⟩ := List.mem_map.1 h
    have := faN_range x
    exact mkRat_small _ d hd (by omega) (by omega)
  · rw [List.mem_singleton] at h
    subst h
    have := faS_bound xs
    exact mkRat_small _ d hd (by omega) (by omega)
theorem faL_length (d : Nat) (xs : List Int) : (faL d xs).length = xs.length + 1 := by simp [faL]

/-- What the loops ask of the numbers q and the parts. -/
theorem fair_bound {qs : List Rat} {out : List Int} (h : FairLaw qs out) (hok : ∀ q ∈ qs, apOk q) (i : Nat) (hi : i < qs.length) : (-281474976710656 ≤ qs[i].floor ∧ qs[i].floor ≤ 281474976710656) ∧ -281474976710656 ≤ out[i]?.getD 0 ∧ out[i]?.getD 0 ≤ 281474976710657 := by
  have hf := apOk_floor (hok _ (List.getElem_mem hi))
  refine ⟨hf, ?_⟩
  rcases h.each i hi with h | ⟨h, _⟩ <;> rw [h] <;> omega

end Go.Proofs.YtgihpfkjpfanmaaGreat
