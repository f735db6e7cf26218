/- Texts of the proof: Ra4, Ra5. -/
import Derived.Test.YtgihpfkjpfanmaaGreatGS
/- ref40.Apportion: the sum's test, and the rest. -/
namespace Go.Proofs.YtgihpfkjpfanmaaGreat
open Go.RowKit

set_option maxHeartbeats 4000000 in
set_option maxRecDepth 100000 in
/-- The sum is no integer. -/
theorem r40_unb (w : World) (a : Option Addr) (c L : Nat) (rs : List RVal) (qs : List Rat) (h : Rats w a c rs qs L) (hn : rs.length ≤ 128) (hL : L ≤ 1000) (hK : RShort rs 1000) (hall : ∀ i (hi : i < rs.length), apOk (qs[i]'(by rw [h.len]; exact hi)))
    (hF1 : -72057594037927936 ≤ (qsum qs).floor) (hF2 : (qsum qs).floor ≤ 72057594037927936) (hszS : rsz (qsum qs) < 1000000) (hint : ¬ qsum qs = (((qsum qs).floor : Int) : Rat)) :
    Calls Tryz.prog 34 #[.slice a rs.length c] w fun e w' => e = .returned (.tuple #[.slice none 0 0, .int .i64 14]) ∧ Ext w w' := by
  have hle := h.le
  have hcap := h.cap
  have hsh := h.short
  have hFM : ∀ V, Calls Tryz.prog 32 #[.int .i64 281474976710656] V (NewRat apMost V) := fun V => r3_FromInt V 281474976710656 (by decide) (by decide)
  have HFM := Lib.hid hFM
  clear hFM
  go_enter Tryz.func34, Tryz.ntmps34
  go_wp2_with fail
  go_loopw [4] (fun ii wr => ∃ j : Nat, j ≤ rs.length ∧ Ext w wr ∧ ii = .int .i64 j) (fun ii _ => rs.length - (intOf ii).toNat)
  case atStart => exact ⟨0, Nat.zero_le _, Ext.refl _, rfl⟩
  case round =>
    obtain ⟨j, hj, hE, rfl⟩ := hrel
    by_cases hlt : j < rs.length
    · obtain ⟨b, o, rfl⟩ := h.at (by omega)
      obtain ⟨b', o', e', c0, c1, c2⟩ := (h.ext hE).cell j hlt
      cases e'
      obtain ⟨ks1, ks2⟩ := hK j hlt
      obtain ⟨hA, hC⟩ := r40_abs w rs[j] _ L (h.num j hlt) ks1 ks2 hL
      have z1 : decide ((0 : Int) < cmpQ (absQ (qs[j]'(by rw [h.len]; exact hlt))) apMost) = false := cmpQ_pos_false (apOk_abs.1 (hall j hlt))
      generalize cmpQ (absQ (qs[j]'(by rw [h.len]; exact hlt))) apMost = t1 at *
      generalize rs[j] = y at *
      have HA := Lib.hid hA; have HC := Lib.hid hC
      clear hA hC
      go_wp2_with fail
      refine (HA.out _ hE).mono ?_
      rintro e w1 ⟨r1, rfl, hr1, k1, k2, x1⟩
      go_wp2_with fail
      refine (HFM.out _).mono ?_
      intro e w2 hN
      obtain ⟨r2, rfl, hr2, x2⟩ := hN.isCan
      clear hN
      go_wp2_with fail
      refine (HC.out _ _ _ _ (hr1.ext x2) k1 k2 hr2).mono ?_
      rintro e w3 ⟨rfl, x3⟩
      go_wp2_with fail
      go_roundw
      case rel => exact ⟨j + 1, by omega, ((hE.trans x1).trans x2).trans x3, by go_num⟩
      case measure => simp [intOf] <;> omega
    · obtain rfl : j = rs.length := by omega
      have hSum := fun V (hV : Ext w V) => r3_Sum V a c rs qs L (h.ext hV) (by have := Nat.mul_le_mul hn (show L + 2 ≤ 1002 by omega); omega) (fun i hi => by have := hK i hi; omega)
      have hsn := rsz_num (qsum qs)
      have hsd := rsz_den (qsum qs)
      have hFl : ∀ V (r : RVal) (B : Nat), IsCan V r (qsum qs) B → Calls Tryz.prog 41 #[.agg #[.bool r.s, .slice r.a r.k r.c, .slice r.b r.j r.d]] V (IntOf (decide ((qsum qs).floor < 0)) (qsum qs).floor.natAbs V) := by
        intro V r B hr
        have hk := hr.k
        have hj := hr.j
        have h5 := r3_Floor V r.s _ _ _ _ _ _ _ _ hr.num hr.den (by omega) (by omega)
        rw [hr.s, sgn_num, Rat.mkRat_self] at h5
        rw [hr.s]
        exact h5.mono (fun _ _ hh => hh.intOf)
      have hVal : ∀ V a c, Raw V a (len (qsum qs).floor.natAbs) c (qsum qs).floor.natAbs → Calls Tryz.prog 40 #[.agg #[.bool (decide ((qsum qs).floor < 0)), .slice a (len (qsum qs).floor.natAbs) c]] V fun e w' => e = .returned (.tuple #[.int .i64 (qsum qs).floor, .bool true]) ∧ Ext V w' := by
        intro V a c hV
        have h5 := r2_Value V (decide ((qsum qs).floor < 0)) a _ c _ hV (by rw [sgn_dec]; omega) (by rw [sgn_dec]; omega)
        rw [sgn_dec] at h5
        exact h5
      have hFr := fun V => r3_FromInt V (qsum qs).floor (by omega) (by omega)
      have hrz : rsz (((qsum qs).floor : Int) : Rat) ≤ 2 := by rw [rsz_int]; have := len_natAbs_i64 (z := (qsum qs).floor) (by omega) (by omega); omega
      have hCm : ∀ V (r r' : RVal) (B B' : Nat), IsCan V r (qsum qs) B → IsCan V r' (((qsum qs).floor : Int) : Rat) B' → Calls Tryz.prog 28 #[.agg #[.bool r.s, .slice r.a r.k r.c, .slice r.b r.j r.d], .agg #[.bool r'.s, .slice r'.a r'.k r'.c, .slice r'.b r'.j r'.d]] V fun e w' => e = .returned (.int .i64 (cmpQ (qsum qs) (((qsum qs).floor : Int) : Rat))) ∧ Ext V w' := by
        intro V r r' B B' hr hr'
        have hk := hr.k
        have hj := hr.j
        have hs := hr'.short hrz
        have h5 := r3_Compare V r.s _ _ _ _ _ _ _ _ hr.num hr.den r'.s _ _ _ _ _ _ _ _ hr'.num hr'.den (by omega) (by omega) (by omega) (by omega)
        rw [hr.s, sgn_num, Rat.mkRat_self, hr'.s, sgn_num, Rat.mkRat_self] at h5
        rw [hr.s, hr'.s]
        exact h5
      have hcz : ((cmpQ (qsum qs) (((qsum qs).floor : Int) : Rat)) != 0) = true := by rw [bne_iff_ne]; exact fun e => hint (cmpQ_eq.1 e)
      generalize cmpQ (qsum qs) (((qsum qs).floor : Int) : Rat) = zc at hCm hcz
      generalize (((qsum qs).floor : Int) : Rat) = fr at hFr hCm
      generalize decide ((qsum qs).floor < 0) = sF at hFl hVal
      generalize (qsum qs).floor.natAbs = nF at hFl hVal
      obtain ⟨F, hF⟩ : ∃ F, F = (qsum qs).floor := ⟨_, rfl⟩
      rw [← hF] at hFr hVal hF1 hF2
      have HSum := Lib.hid hSum; have HFl := Lib.hid hFl; have HFr := Lib.hid hFr; have HVal := Lib.hid hVal; have HCm := Lib.hid hCm; have HF := Lib.hid hF
      clear hSum hFl hFr hVal hCm hF hsn hsd hrz
      go_wp2_with fail
      refine (HSum.out _ hE).mono ?_
      intro e w2 hN
      obtain ⟨r2, rfl, hr2, x2⟩ := hN.isCan
      clear hN
      go_upto_region 9 with fail
      obtain ⟨W3, hW3, x3, Z3, A3⟩ := boxes1 w2 55 [.bool r2.s, .slice r2.a r2.k r2.c, .slice r2.b r2.j r2.d]
      rw [← hW3]
      clear hW3
      obtain ⟨k0, k1, k2, -, -, -⟩ := box3 A3 (Ext.refl _)
      go_wp2_with fail
      refine (HFl.out _ _ _ (hr2.ext x3)).mono ?_
      rintro e w4 ⟨a4, c4, rfl, r4, f4, x4⟩
      go_wp2_with fail
      refine (HVal.out _ _ _ r4).mono ?_
      rintro e w5 ⟨rfl, x5⟩
      clear k0 k1 k2 r4 f4
      have y5 : Ext W3 w5 := x4.trans x5
      go_wp2_with fail
      have hk := box3 A3 y5.drew
      obtain ⟨k0, k1, k2, -, -, -⟩ := hk
      have hk : w5.drew.cell? ⟨w2.heap.size, 0, none⟩ = some (.bool r2.s) ∧ w5.drew.cell? ⟨w2.heap.size, 1, none⟩ = some (.slice r2.a r2.k r2.c) ∧ w5.drew.cell? ⟨w2.heap.size, 2, none⟩ = some (.slice r2.b r2.j r2.d) := ⟨k0, k1, k2⟩
      clear k0 k1 k2
      go_region_held3 (fun w' => w'.cell? ⟨w2.heap.size, 0, none⟩ = some (.bool r2.s) ∧ w'.cell? ⟨w2.heap.size, 1, none⟩ = some (.slice r2.a r2.k r2.c) ∧ w'.cell? ⟨w2.heap.size, 2, none⟩ = some (.slice r2.b r2.j r2.d)) (exact hk) (first
        | (go_at_call 32; refine (HFr.out _).mono ?_; intro e w6 hN; obtain ⟨r6, rfl, hr6, x6⟩ := hN.isCan; clear hN; have y6 : Ext W3 w6 := y5.drew.trans x6; have hk : w6.cell? ⟨w2.heap.size, 0, none⟩ = some (.bool r2.s) ∧ w6.cell? ⟨w2.heap.size, 1, none⟩ = some (.slice r2.a r2.k r2.c) ∧ w6.cell? ⟨w2.heap.size, 2, none⟩ = some (.slice r2.b r2.j r2.d) := (by obtain ⟨q0, q1, q2, -, -, -⟩ := box3 A3 y6; exact ⟨q0, q1, q2⟩))
        | (go_at_call 28; refine (HCm.out _ _ _ _ _ (hr2.ext (x3.trans y6)) hr6).mono ?_; rintro e w7 ⟨rfl, x7⟩; have y7 : Ext W3 w7 := y6.trans x7; have hk : w7.cell? ⟨w2.heap.size, 0, none⟩ = some (.bool r2.s) ∧ w7.cell? ⟨w2.heap.size, 1, none⟩ = some (.slice r2.a r2.k r2.c) ∧ w7.cell? ⟨w2.heap.size, 2, none⟩ = some (.slice r2.b r2.j r2.d) := (by obtain ⟨q0, q1, q2, -, -, -⟩ := box3 A3 y7; exact ⟨q0, q1, q2⟩)))
      have xE : Ext w w7 := ((hE.trans x2).trans x3).trans y7
      clear hk HSum HFl HFr HVal HCm A3 hr2 hr6 x2 x3 x4 x5 x6 x7 y5 y6 y7
      go_wp2_with fail
      go_ret2
      exact ⟨rfl, xE⟩

theorem two_allocs (w : World) (T1 T2 : TypeId) (l1 l2 : List Value) : Arr ((w.alloc (.cells l1.toArray T1)).alloc (.cells l2.toArray T2)).drew w.heap.size T1 l1 ∧ Arr ((w.alloc (.cells l1.toArray T1)).alloc (.cells l2.toArray T2)).drew (w.heap.size + 1) T2 l2 ∧ Ext w ((w.alloc (.cells l1.toArray T1)).alloc (.cells l2.toArray T2)).drew :=
  ⟨((Arr.alloc w T1 l1).ext ((Ext.refl _).alloc _)).ext (Ext.refl _).drew, (Arr.alloc2 w _ T2 l2).ext (Ext.refl _).drew, (((Ext.refl _).alloc _).alloc _).drew⟩

/-- The state at the head of the second loop. -/
def RpAt (w : World) (fl : List Int) (fs : List Rat) (n bw bp BB i : Nat) (wr : World) : Prop :=
  ∃ prs : List RVal, prs.length = i ∧ i ≤ n ∧ Arr wr bw 3 (i64s (fl.take i ++ List.replicate (n - i) 0)) ∧ Arr wr bp 55 (ratCells prs ++ zeros3 (n - i)) ∧ (∀ k (hk : k < prs.length), IsCan wr prs[k] (fs[k]?.getD 0) BB) ∧ Ext w wr ∧ BB ≤ wr.heap.size

/-- The state at the head of the third loop: t numbers are raised. -/
def SelAt (w : World) (fs : List Rat) (fl : List Int) (n bw bp BB t : Nat) (wr : World) : Prop :=
  ∃ prs : List RVal, prs.length = n ∧ Arr wr bw 3 (i64s (apInc fs n fl t)) ∧ Arr wr bp 55 (ratCells prs) ∧ (∀ k (hk : k < prs.length), IsCan wr prs[k] (partAt fs n t k) BB) ∧ Ext w wr ∧ BB ≤ wr.heap.size
theorem zeros3_zero : zeros3 0 = [] := rfl
open Classical in
theorem apInc_near (fs : List Rat) (n : Nat) (l : List Int) (hl : l.length = n) (t : Nat) (ht : t ≤ n) (p : Nat) (hp : p < n) : l[p]?.getD 0 ≤ (apInc fs n l t)[p]?.getD 0 ∧ (apInc fs n l t)[p]?.getD 0 ≤ l[p]?.getD 0 + 1 := by
  rw [apInc_get fs n l hl t ht p hp]
  split <;> omega

theorem floor_sum_bound (qs : List Rat) (h : ∀ i (hi : i < qs.length), -281474976710656 ≤ qs[i].floor ∧ qs[i].floor ≤ 281474976710656) (j : Nat) (hl : qs.length ≤ 128) : -36028797018963968 ≤ isum ((qs.map Rat.floor).take j) ∧ isum ((qs.map Rat.floor).take j) ≤ 36028797018963968 := by
  have h1 := isum_bound ((qs.map Rat.floor).take j) 281474976710656 (by
    intro x hx
    obtain ⟨q, hq, rfl⟩ := List.mem_map.1 (List.mem_of_mem_take hx)
    obtain ⟨i, hi, rfl⟩ := List.getElem_of_mem hq
    exact h i hi)
  have h2 : ((((qs.map Rat.floor).take j).length : Nat) : Int) ≤ 128 := by rw [List.length_take, List.length_map]; omega
  omega

theorem make_ints (n : Nat) (hn : n ≤ 128) (w : World) : (Instr.makeSlice 22 (.int .i64 (n : Int)) (.int .i64 (n : Int))).run Tryz.prog w = .ok (.slice (some ⟨w.heap.size, 0, none⟩) n n) (w.alloc (.cells (List.replicate n (Value.int .i64 0)).toArray 3)) := by
  obtain ⟨i, h2, h4, h5, h6⟩ := info_parts Tryz.info_int
  have hrun := run_make (P := Tryz.prog) w 22 3 i _ Tryz.underlying22 h2 h4 .i64 .i64 n n (by omega) (Int.le_refl _) (by rw [h6]; omega) (by omega)
  simp only [Int.toNat_natCast, h5, Nat.mul_one, show (Value.int IntKind.i64 0).cells = #[Value.int IntKind.i64 0] from rfl, madeCells_one] at hrun
  exact hrun
theorem make_rats (n : Nat) (hn : n ≤ 128) (w : World) : (Instr.makeSlice 48 (.int .i64 (n : Int)) (.int .i64 (n : Int))).run Tryz.prog w = .ok (.slice (some ⟨w.heap.size, 0, none⟩) n n) (w.alloc (.cells (zeros3 n).toArray 55)) := by
  obtain ⟨i, h2, h4, h5, h6⟩ := info_parts Tryz.info_rat
  have hrun := run_make (P := Tryz.prog) w 48 55 i _ Tryz.underlying48 h2 h4 .i64 .i64 n n (by omega) (Int.le_refl _) (by rw [h6]; omega) (by omega)
  have h3 : (Value.agg zero3.toArray).cells = zero3.toArray := rfl
  rw [h3, h5, Int.toNat_natCast, madeCells_three] at hrun
  exact hrun

set_option maxHeartbeats 4000000 in
set_option maxRecDepth 100000 in
/-- The numbers are rounded. -/
theorem r40_main (w : World) (a : Option Addr) (c L : Nat) (rs : List RVal) (qs : List Rat) (h : Rats w a c rs qs L) (hn : rs.length ≤ 128) (hL : L ≤ 1000) (hK : RShort rs 1000) (hall : ∀ i (hi : i < rs.length), apOk (qs[i]'(by rw [h.len]; exact hi)))
    (hF1 : -72057594037927936 ≤ (qsum qs).floor) (hF2 : (qsum qs).floor ≤ 72057594037927936) (hszS : rsz (qsum qs) < 1000000) (hint : qsum qs = (((qsum qs).floor : Int) : Rat)) (hm0 : isum (qs.map Rat.floor) ≤ (qsum qs).floor) (hm1 : (qsum qs).floor ≤ isum (qs.map Rat.floor) + rs.length) :
    Calls Tryz.prog 34 #[.slice a rs.length c] w (ApGood (apInc (fracs qs) rs.length (qs.map Rat.floor) ((qsum qs).floor - isum (qs.map Rat.floor)).toNat) w) := by
  have hcz : ((cmpQ (qsum qs) (((qsum qs).floor : Int) : Rat)) != 0) = false := by rw [bne_eq_false_iff_eq]; exact cmpQ_eq.2 hint
  obtain ⟨out, hout⟩ : ∃ out, out = apInc (fracs qs) rs.length (qs.map Rat.floor) ((qsum qs).floor - isum (qs.map Rat.floor)).toNat := ⟨_, rfl⟩
  rw [← hout]
  have HOUT := Lib.hid hout
  have HM0 := Lib.hid hm0
  have HM1 := Lib.hid hm1
  clear hint hout hm0 hm1
  have hle := h.le
  have hcap := h.cap
  have hsh := h.short
  have hFM : ∀ V, Calls Tryz.prog 32 #[.int .i64 281474976710656] V (NewRat apMost V) := fun V => r3_FromInt V 281474976710656 (by decide) (by decide)
  have HFM := Lib.hid hFM
  clear hFM
  go_enter Tryz.func34, Tryz.ntmps34
  go_wp2_with fail
  go_loopw [4] (fun ii wr => ∃ j : Nat, j ≤ rs.length ∧ Ext w wr ∧ ii = .int .i64 j) (fun ii _ => rs.length - (intOf ii).toNat)
  case atStart => exact ⟨0, Nat.zero_le _, Ext.refl _, rfl⟩
  case round =>
    obtain ⟨j, hj, hE, rfl⟩ := hrel
    by_cases hlt : j < rs.length
    · obtain ⟨b, o, rfl⟩ := h.at (by omega)
      obtain ⟨b', o', e', c0, c1, c2⟩ := (h.ext hE).cell j hlt
      cases e'
      obtain ⟨ks1, ks2⟩ := hK j hlt
      obtain ⟨hA, hC⟩ := r40_abs w rs[j] _ L (h.num j hlt) ks1 ks2 hL
      have z1 : decide ((0 : Int) < cmpQ (absQ (qs[j]'(by rw [h.len]; exact hlt))) apMost) = false := cmpQ_pos_false (apOk_abs.1 (hall j hlt))
      generalize cmpQ (absQ (qs[j]'(by rw [h.len]; exact hlt))) apMost = t1 at *
      generalize rs[j] = y at *
      have HA := Lib.hid hA; have HC := Lib.hid hC
      clear hA hC
      go_wp2_with fail
      refine (HA.out _ hE).mono ?_
      rintro e w1 ⟨r1, rfl, hr1, k1, k2, x1⟩
      go_wp2_with fail
      refine (HFM.out _).mono ?_
      intro e w2 hN
      obtain ⟨r2, rfl, hr2, x2⟩ := hN.isCan
      clear hN
      go_wp2_with fail
      refine (HC.out _ _ _ _ (hr1.ext x2) k1 k2 hr2).mono ?_
      rintro e w3 ⟨rfl, x3⟩
      go_wp2_with fail
      go_roundw
      case rel => exact ⟨j + 1, by omega, ((hE.trans x1).trans x2).trans x3, by go_num⟩
      case measure => simp [intOf] <;> omega
    · obtain rfl : j = rs.length := by omega
      have hSum := fun V (hV : Ext w V) => r3_Sum V a c rs qs L (h.ext hV) (by have := Nat.mul_le_mul hn (show L + 2 ≤ 1002 by omega); omega) (fun i hi => by have := hK i hi; omega)
      have hsn := rsz_num (qsum qs)
      have hsd := rsz_den (qsum qs)
      have hFl : ∀ V (r : RVal) (B : Nat), IsCan V r (qsum qs) B → Calls Tryz.prog 41 #[.agg #[.bool r.s, .slice r.a r.k r.c, .slice r.b r.j r.d]] V (IntOf (decide ((qsum qs).floor < 0)) (qsum qs).floor.natAbs V) := by
        intro V r B hr
        have hk := hr.k
        have hj := hr.j
        have h5 := r3_Floor V r.s _ _ _ _ _ _ _ _ hr.num hr.den (by omega) (by omega)
        rw [hr.s, sgn_num, Rat.mkRat_self] at h5
        rw [hr.s]
        exact h5.mono (fun _ _ hh => hh.intOf)
      have hVal : ∀ V a c, Raw V a (len (qsum qs).floor.natAbs) c (qsum qs).floor.natAbs → Calls Tryz.prog 40 #[.agg #[.bool (decide ((qsum qs).floor < 0)), .slice a (len (qsum qs).floor.natAbs) c]] V fun e w' => e = .returned (.tuple #[.int .i64 (qsum qs).floor, .bool true]) ∧ Ext V w' := by
        intro V a c hV
        have h5 := r2_Value V (decide ((qsum qs).floor < 0)) a _ c _ hV (by rw [sgn_dec]; omega) (by rw [sgn_dec]; omega)
        rw [sgn_dec] at h5
        exact h5
      have hFr := fun V => r3_FromInt V (qsum qs).floor (by omega) (by omega)
      have hrz : rsz (((qsum qs).floor : Int) : Rat) ≤ 2 := by rw [rsz_int]; have := len_natAbs_i64 (z := (qsum qs).floor) (by omega) (by omega); omega
      have hCm : ∀ V (r r' : RVal) (B B' : Nat), IsCan V r (qsum qs) B → IsCan V r' (((qsum qs).floor : Int) : Rat) B' → Calls Tryz.prog 28 #[.agg #[.bool r.s, .slice r.a r.k r.c, .slice r.b r.j r.d], .agg #[.bool r'.s, .slice r'.a r'.k r'.c, .slice r'.b r'.j r'.d]] V fun e w' => e = .returned (.int .i64 (cmpQ (qsum qs) (((qsum qs).floor : Int) : Rat))) ∧ Ext V w' := by
        intro V r r' B B' hr hr'
        have hk := hr.k
        have hj := hr.j
        have hs := hr'.short hrz
        have h5 := r3_Compare V r.s _ _ _ _ _ _ _ _ hr.num hr.den r'.s _ _ _ _ _ _ _ _ hr'.num hr'.den (by omega) (by omega) (by omega) (by omega)
        rw [hr.s, sgn_num, Rat.mkRat_self, hr'.s, sgn_num, Rat.mkRat_self] at h5
        rw [hr.s, hr'.s]
        exact h5
      generalize cmpQ (qsum qs) (((qsum qs).floor : Int) : Rat) = zc at hCm hcz
      generalize (((qsum qs).floor : Int) : Rat) = fr at hFr hCm
      generalize decide ((qsum qs).floor < 0) = sF at hFl hVal
      generalize (qsum qs).floor.natAbs = nF at hFl hVal
      obtain ⟨F, hF⟩ : ∃ F, F = (qsum qs).floor := ⟨_, rfl⟩
      rw [← hF] at hFr hVal hF1 hF2
      have HSum := Lib.hid hSum; have HFl := Lib.hid hFl; have HFr := Lib.hid hFr; have HVal := Lib.hid hVal; have HCm := Lib.hid hCm; have HF := Lib.hid hF
      clear hSum hFl hFr hVal hCm hF hsn hsd hrz
      go_wp2_with fail
      refine (HSum.out _ hE).mono ?_
      intro e w2 hN
      obtain ⟨r2, rfl, hr2, x2⟩ := hN.isCan
      clear hN
      go_upto_region 9 with fail
      obtain ⟨W3, hW3, x3, Z3, A3⟩ := boxes1 w2 55 [.bool r2.s, .slice r2.a r2.k r2.c, .slice r2.b r2.j r2.d]
      rw [← hW3]
      clear hW3
      obtain ⟨k0, k1, k2, -, -, -⟩ := box3 A3 (Ext.refl _)
      go_wp2_with fail
      refine (HFl.out _ _ _ (hr2.ext x3)).mono ?_
      rintro e w4 ⟨a4, c4, rfl, r4, f4, x4⟩
      go_wp2_with fail
      refine (HVal.out _ _ _ r4).mono ?_
      rintro e w5 ⟨rfl, x5⟩
      clear k0 k1 k2 r4 f4
      have y5 : Ext W3 w5 := x4.trans x5
      go_wp2_with fail
      have hk := box3 A3 y5.drew
      obtain ⟨k0, k1, k2, -, -, -⟩ := hk
      have hk : w5.drew.cell? ⟨w2.heap.size, 0, none⟩ = some (.bool r2.s) ∧ w5.drew.cell? ⟨w2.heap.size, 1, none⟩ = some (.slice r2.a r2.k r2.c) ∧ w5.drew.cell? ⟨w2.heap.size, 2, none⟩ = some (.slice r2.b r2.j r2.d) := ⟨k0, k1, k2⟩
      clear k0 k1 k2
      go_region_held3 (fun w' => w'.cell? ⟨w2.heap.size, 0, none⟩ = some (.bool r2.s) ∧ w'.cell? ⟨w2.heap.size, 1, none⟩ = some (.slice r2.a r2.k r2.c) ∧ w'.cell? ⟨w2.heap.size, 2, none⟩ = some (.slice r2.b r2.j r2.d)) (exact hk) (first
        | (go_at_call 32; refine (HFr.out _).mono ?_; intro e w6 hN; obtain ⟨r6, rfl, hr6, x6⟩ := hN.isCan; clear hN; have y6 : Ext W3 w6 := y5.drew.trans x6; have hk : w6.cell? ⟨w2.heap.size, 0, none⟩ = some (.bool r2.s) ∧ w6.cell? ⟨w2.heap.size, 1, none⟩ = some (.slice r2.a r2.k r2.c) ∧ w6.cell? ⟨w2.heap.size, 2, none⟩ = some (.slice r2.b r2.j r2.d) := (by obtain ⟨q0, q1, q2, -, -, -⟩ := box3 A3 y6; exact ⟨q0, q1, q2⟩))
        | (go_at_call 28; refine (HCm.out _ _ _ _ _ (hr2.ext (x3.trans y6)) hr6).mono ?_; rintro e w7 ⟨rfl, x7⟩; have y7 : Ext W3 w7 := y6.trans x7; have hk : w7.cell? ⟨w2.heap.size, 0, none⟩ = some (.bool r2.s) ∧ w7.cell? ⟨w2.heap.size, 1, none⟩ = some (.slice r2.a r2.k r2.c) ∧ w7.cell? ⟨w2.heap.size, 2, none⟩ = some (.slice r2.b r2.j r2.d) := (by obtain ⟨q0, q1, q2, -, -, -⟩ := box3 A3 y7; exact ⟨q0, q1, q2⟩)))
      have xE : Ext w w7 := ((hE.trans x2).trans x3).trans y7
      clear hk HSum HFl HFr HVal HCm A3 hr2 hr6 x2 x3 x4 x5 x6 x7 y5 y6 y7
      have hmk1 := make_ints rs.length hn
      have hmk2 := make_rats rs.length hn
      go_wp2_with fail
      go_cut [8, 9] (fun s8 s9 wx => ∃ (bw bp : Nat), s8 = .slice (some ⟨bw, 0, none⟩) rs.length rs.length ∧ s9 = .slice (some ⟨bp, 0, none⟩) rs.length rs.length ∧ w7.heap.size ≤ bw ∧ w7.heap.size ≤ bp ∧ bw ≠ bp ∧ Arr wx bw 3 (List.replicate rs.length (Value.int .i64 0)) ∧ Arr wx bp 55 (zeros3 rs.length) ∧ Ext w7 wx)
      case first =>
        go_region
        all_goals go_wp2_with fail
        all_goals go_meet
        all_goals rw [← List.toArray_replicate]
        · obtain ⟨q1, q2, q3⟩ := two_allocs w7 3 55 (List.replicate rs.length (Value.int .i64 0)) (zeros3 rs.length)
          exact ⟨_, _, rfl, rfl, Nat.le_refl _, Nat.le_succ _, by omega, q1, q2, q3⟩
        · obtain ⟨q1, q2, q3⟩ := two_allocs w7 55 3 (zeros3 rs.length) (List.replicate rs.length (Value.int .i64 0))
          exact ⟨_, _, rfl, rfl, Nat.le_succ _, Nat.le_refl _, by omega, q2, q1, q3⟩
      case rest =>
        obtain ⟨bw, bp, rfl, rfl, ow, op, obp, aW, aP, xc⟩ := hcut
        clear hmk1 hmk2
        have xC : Ext w wc := xE.trans xc
        have sE := xE.size
        have lw := aW.lt
        have lp := aP.lt
        obtain ⟨BB, hBB⟩ : ∃ BB, BB = wc.heap.size := ⟨_, rfl⟩
        have hql := h.len
        have SI : Hid (RpAt w (qs.map Rat.floor) (fracs qs) rs.length bw bp BB 0 wc) := ⟨[], rfl, Nat.zero_le _, by rw [List.take_zero, List.nil_append, Nat.sub_zero, ← i64s_zeros]; exact aW, by exact aP, fun k hk => absurd hk (Nat.not_lt_zero _), xC, by omega⟩
        have o1 : bw < BB := by omega
        have o2 : bp < BB := by omega
        have hfb : ∀ i (hi : i < qs.length), -281474976710656 ≤ qs[i].floor ∧ qs[i].floor ≤ 281474976710656 := fun i hi => apOk_floor (hall i (by rw [← hql]; exact hi))
        have HFB := Lib.hid hfb
        have HQL := Lib.hid hql
        clear aW aP xc hBB lw lp hfb hql
        go_wp2_with fail
        go_loopw [6, 10] (fun tt ii wr => ∃ i : Nat, RpAt w (qs.map Rat.floor) (fracs qs) rs.length bw bp BB i wr ∧ tt = .int .i64 (F - isum ((qs.map Rat.floor).take i)) ∧ ii = .int .i64 i) (fun _ ii _ => rs.length - (intOf ii).toNat)
        case atStart => exact ⟨0, SI.out, by simp [isum], rfl⟩
        case round =>
          obtain ⟨i, hAt, rfl, rfl⟩ := hrel
          obtain ⟨prs, hpl2, hi, aW, aG, hcan, hx, hBw⟩ := hAt
          obtain ⟨b1, b2⟩ := floor_sum_bound qs (fun k hk => HFB.out k hk) i (by rw [HQL.out]; exact hn)
          by_cases hlt : i < rs.length
          · have hil : i < qs.length := by rw [HQL.out]; exact hlt
            obtain ⟨b, o, rfl⟩ := h.at (by omega)
            obtain ⟨b', o', e', c0, c1, c2⟩ := h.cell i hlt
            cases e'
            obtain ⟨nn, mm, g1, g2, gq, gl1, gl2⟩ := h.num i hlt
            obtain ⟨ks1, ks2⟩ := hK i hlt
            obtain ⟨fb1, fb2⟩ := HFB.out i hil
            have hFl := fun V (hV : Ext w V) => r3_Floor V rs[i].s _ _ _ _ _ _ _ _ (g1.ext hV) (g2.ext hV) (by omega) (by omega)
            have hSub' : ∀ V, Ext w V → ∀ (r : RVal) (B : Nat), IsCan V r (((qs[i]'hil).floor : Int) : Rat) B → r.k < 200000 → r.j < 200000 → Calls Tryz.prog 42 #[.agg #[.bool rs[i].s, .slice rs[i].a rs[i].k rs[i].c, .slice rs[i].b rs[i].j rs[i].d], .agg #[.bool r.s, .slice r.a r.k r.c, .slice r.b r.j r.d]] V (NewRat ((qs[i]'hil) - (((qs[i]'hil).floor : Int) : Rat)) V) := by
              intro V hV r B hr k1 k2
              have h5 := r3_Sub V rs[i].s _ _ _ _ _ _ _ _ (g1.ext hV) (g2.ext hV) r.s _ _ _ _ _ _ _ _ hr.num hr.den (by omega) (by omega) (by omega) (by omega)
              rw [← gq, hr.s, sgn_num, Rat.mkRat_self] at h5
              rw [hr.s]
              exact h5
            rw [← gq] at hFl
            have hVal : ∀ V a c, Raw V a (len (qs[i]'hil).floor.natAbs) c (qs[i]'hil).floor.natAbs → Calls Tryz.prog 40 #[.agg #[.bool (decide ((qs[i]'hil).floor < 0)), .slice a (len (qs[i]'hil).floor.natAbs) c]] V fun e w' => e = .returned (.tuple #[.int .i64 (qs[i]'hil).floor, .bool true]) ∧ Ext V w' := by
              intro V a c hV
              have h5 := r2_Value V (decide ((qs[i]'hil).floor < 0)) a _ c _ hV (by rw [sgn_dec]; omega) (by rw [sgn_dec]; omega)
              rw [sgn_dec] at h5
              exact h5
            have hFI := fun V => r3_FromInt V (qs[i]'hil).floor (by omega) (by omega)
            have hrz : rsz (((qs[i]'hil).floor : Int) : Rat) ≤ 2 := by rw [rsz_int]; have := len_natAbs_i64 (z := (qs[i]'hil).floor) (by omega) (by omega); omega
            have hFl' : ∀ V, Ext w V → Calls Tryz.prog 41 #[.agg #[.bool rs[i].s, .slice rs[i].a rs[i].k rs[i].c, .slice rs[i].b rs[i].j rs[i].d]] V (IntOf (decide ((qs[i]'hil).floor < 0)) (qs[i]'hil).floor.natAbs V) := fun V hV => (hFl V hV).mono (fun _ _ hh => hh.intOf)
            have HFr : Hid ((fracs qs)[i]?.getD 0 = (qs[i]'hil) - (((qs[i]'hil).floor : Int) : Rat)) := Lib.hid (fracs_get qs i hil)
            have hSu : Hid (isum ((qs.map Rat.floor).take (i + 1)) = isum ((qs.map Rat.floor).take i) + (qs[i]'hil).floor) := Lib.hid (sum_take hil)
            have HT : Hid ((qs.map Rat.floor).take (i + 1) = (qs.map Rat.floor).take i ++ [(qs[i]'hil).floor]) := Lib.hid (by rw [List.take_succ_eq_append_getElem (by simpa using hil), List.getElem_map])
            have HTL : Hid (((qs.map Rat.floor).take i).length = i) := Lib.hid (by rw [List.length_take, List.length_map]; omega)
            clear hFl gq
            generalize (qs[i]'hil) - (((qs[i]'hil).floor : Int) : Rat) = f at *
            generalize (((qs[i]'hil).floor : Int) : Rat) = zr at *
            generalize decide ((qs[i]'hil).floor < 0) = sf at *
            generalize (qs[i]'hil).floor.natAbs = nf at *
            generalize (qs[i]'hil).floor = z at *
            generalize rs[i] = y at *
            generalize isum ((qs.map Rat.floor).take i) = su at *
            have HFl := Lib.hid hFl'; have HSub := Lib.hid hSub'; have HVal := Lib.hid hVal; have HFI := Lib.hid hFI
            clear hFl' hSub' hVal hFI g1 g2 gl1 gl2
            have bi0 : (0 : Int) ≤ (i : Int) := by omega
            have bi1 : (i : Int) < (rs.length : Int) := by omega
            have zb : b < w.heap.size := block_lt c0
            have c0' := cell_ext hx c0
            have c1' := cell_ext hx c1
            have c2' := cell_ext hx c2
            obtain ⟨m, hm⟩ : ∃ m, rs.length - i = m + 1 := ⟨rs.length - i - 1, by omega⟩
            have HM' : Hid (rs.length - (i + 1) = m) := Lib.hid (by omega)
            rw [hm] at aW aG
            clear hm
            go_wp2_with fail
            refine (HFl.out _ hx).mono ?_
            rintro e w7' ⟨a7, c7, rfl, r7, f7, x7⟩
            clear c0' c1' c2'
            go_wp2_with fail
            refine (HVal.out _ _ _ r7).mono ?_
            rintro e w8 ⟨rfl, x8⟩
            clear r7 f7
            have u8 : Ext wr w8 := x7.trans x8
            have aW8 := aW.ext u8
            have q0 : w8.cell? ⟨bw, i, none⟩ = some (.int .i64 0) := by
              rw [aW8.cell, i64s_get _ _ (by rw [List.length_append, HTL.out]; simp)]
              rw [List.getElem_append_right (by rw [HTL.out]; exact Nat.le_refl _)]
              simp
            have q1 := aW8.frozen i
            go_wp2_with fail
            have C1 : Arr (w8.setCell ⟨bw, i, none⟩ (.int .i64 z)) bw 3 (i64s ((qs.map Rat.floor).take (i + 1) ++ List.replicate m 0)) := by
              have h5 := aW8.set i (.int .i64 z)
              have h6 := i64s_next ((qs.map Rat.floor).take i) m z
              rw [HTL.out] at h6
              rw [h6] at h5
              rw [HT.out]
              exact h5
            have C2 : Arr (w8.setCell ⟨bw, i, none⟩ (.int .i64 z)) bp 55 (ratCells prs ++ zeros3 (m + 1)) := (aG.ext u8).other _ _ (by simp only; exact obp)
            have C3 := fun k hk => ((hcan k hk).ext u8).setCell ⟨bw, i, none⟩ (.int .i64 z) (by simp only; omega)
            have C4 : Ext w (w8.setCell ⟨bw, i, none⟩ (.int .i64 z)) := (hx.trans u8).setCell (by simp only; omega) _
            have C5 : BB ≤ (w8.setCell ⟨bw, i, none⟩ (.int .i64 z)).heap.size := by have := u8.size; simp [World.setCell]; omega
            generalize hX : w8.setCell ⟨bw, i, none⟩ (.int .i64 z) = X at *
            clear hX q0 q1 aW8 aW aG hcan u8 x7 x8 hx
            have cz : X.cell? ⟨bw, i, none⟩ = some (.int .i64 z) := by
              rw [C1.cell, i64s_get _ _ (by rw [HT.out, List.length_append, List.length_append, HTL.out]; simp; omega)]
              congr 2
              rw [List.getElem_append_left (by rw [HT.out, List.length_append, HTL.out]; simp)]
              have : ∀ (A : List Int) (hA : A = (qs.map Rat.floor).take i ++ [z]) (hl : i < A.length), A[i] = z := by
                intro A hA hl
                subst hA
                rw [List.getElem_append_right (by rw [HTL.out]; exact Nat.le_refl _)]
                simp [HTL.out]
              exact this _ HT.out _
            have hk : X.drew.cell? ⟨b, o + i * 3, none⟩ = some (.bool y.s) ∧ X.drew.cell? ⟨b, o + i * 3 + 1, none⟩ = some (.slice y.a y.k y.c) ∧ X.drew.cell? ⟨b, o + i * 3 + 2, none⟩ = some (.slice y.b y.j y.d) ∧ X.drew.cell? ⟨bw, i, none⟩ = some (.int .i64 z) := ⟨cell_ext C4.drew c0, cell_ext C4.drew c1, cell_ext C4.drew c2, cz⟩
            go_region_held3 (fun w' => w'.cell? ⟨b, o + i * 3, none⟩ = some (.bool y.s) ∧ w'.cell? ⟨b, o + i * 3 + 1, none⟩ = some (.slice y.a y.k y.c) ∧ w'.cell? ⟨b, o + i * 3 + 2, none⟩ = some (.slice y.b y.j y.d) ∧ w'.cell? ⟨bw, i, none⟩ = some (.int .i64 z)) (first | with_reducible exact hk | (obtain ⟨q0, q1, q2, q3⟩ := hk; refine ⟨cell_setN q0 ?_, cell_setN q1 ?_, cell_setN q2 ?_, cell_setN q3 ?_⟩ <;> (simp only; omega))) (first
              | (go_at_call 32; refine (HFI.out _).mono ?_; intro e w9 hN; obtain ⟨r9, rfl, hr9, x9⟩ := hN.isCan; clear hN; have v9 : Ext w w9 := C4.drew.trans x9; have u9 : Ext X w9 := (Ext.refl _).drew.trans x9; have hk : w9.cell? ⟨b, o + i * 3, none⟩ = some (.bool y.s) ∧ w9.cell? ⟨b, o + i * 3 + 1, none⟩ = some (.slice y.a y.k y.c) ∧ w9.cell? ⟨b, o + i * 3 + 2, none⟩ = some (.slice y.b y.j y.d) ∧ w9.cell? ⟨bw, i, none⟩ = some (.int .i64 z) := ⟨cell_ext v9 c0, cell_ext v9 c1, cell_ext v9 c2, cell_ext u9 cz⟩)
              | (go_at_call 42; refine (HSub.out _ v9 _ _ hr9 (Nat.lt_of_le_of_lt (hr9.short hrz).1 (by decide)) (Nat.lt_of_le_of_lt (hr9.short hrz).2 (by decide))).mono ?_; intro e w10 hN; obtain ⟨r10, rfl, hr10, x10⟩ := hN.isCan; clear hN; have v10 : Ext w w10 := v9.trans x10; have u10 : Ext X w10 := u9.trans x10; have hk : w10.cell? ⟨b, o + i * 3, none⟩ = some (.bool y.s) ∧ w10.cell? ⟨b, o + i * 3 + 1, none⟩ = some (.slice y.a y.k y.c) ∧ w10.cell? ⟨b, o + i * 3 + 2, none⟩ = some (.slice y.b y.j y.d) ∧ w10.cell? ⟨bw, i, none⟩ = some (.int .i64 z) := ⟨cell_ext v10 c0, cell_ext v10 c1, cell_ext v10 c2, cell_ext u10 cz⟩; obtain ⟨p0, p1, p2, p3, p4, p5⟩ := zero_at (C2.ext u10) (by rw [ratCells_length, hpl2])))
            have su10 := u10.size
            have D1 : Arr (((w10.setCell ⟨bp, i * 3, none⟩ (.bool r10.s)).setCell ⟨bp, i * 3 + 1, none⟩ (.slice r10.a r10.k r10.c)).setCell ⟨bp, i * 3 + 2, none⟩ (.slice r10.b r10.j r10.d)) bp 55 (ratCells (prs ++ [r10]) ++ zeros3 m) := by
              have h5 := (((C2.ext u10).set (i * 3) (.bool r10.s)).set (i * 3 + 1) (.slice r10.a r10.k r10.c)).set (i * 3 + 2) (.slice r10.b r10.j r10.d)
              have h6 := fill3 (ratCells prs) m (.bool r10.s) (.slice r10.a r10.k r10.c) (.slice r10.b r10.j r10.d)
              rw [ratCells_length, hpl2] at h6
              rw [h6] at h5
              rw [ratCells_snoc]
              exact h5
            have D2 : Arr (((w10.setCell ⟨bp, i * 3, none⟩ (.bool r10.s)).setCell ⟨bp, i * 3 + 1, none⟩ (.slice r10.a r10.k r10.c)).setCell ⟨bp, i * 3 + 2, none⟩ (.slice r10.b r10.j r10.d)) bw 3 (i64s ((qs.map Rat.floor).take (i + 1) ++ List.replicate m 0)) := (((C1.ext u10).other _ _ (by simp only; exact fun e => obp e.symm)).other _ _ (by simp only; exact fun e => obp e.symm)).other _ _ (by simp only; exact fun e => obp e.symm)
            have D3 := fun k hk => (((C3 k hk).ext u10).setCell ⟨bp, i * 3, none⟩ (.bool r10.s) (by simp only; omega)).setCell ⟨bp, i * 3 + 1, none⟩ (.slice r10.a r10.k r10.c) (by simp only; omega) |>.setCell ⟨bp, i * 3 + 2, none⟩ (.slice r10.b r10.j r10.d) (by simp only; omega)
            have su9 := u9.size
            have D4 := (((hr10.mono (show BB ≤ w9.heap.size by omega)).setCell ⟨bp, i * 3, none⟩ (.bool r10.s) (by simp only; omega)).setCell ⟨bp, i * 3 + 1, none⟩ (.slice r10.a r10.k r10.c) (by simp only; omega)).setCell ⟨bp, i * 3 + 2, none⟩ (.slice r10.b r10.j r10.d) (by simp only; omega)
            have D5 : Ext w (((w10.setCell ⟨bp, i * 3, none⟩ (.bool r10.s)).setCell ⟨bp, i * 3 + 1, none⟩ (.slice r10.a r10.k r10.c)).setCell ⟨bp, i * 3 + 2, none⟩ (.slice r10.b r10.j r10.d)) := (((v10.setCell (by simp only; omega) _).setCell (by simp only; omega) _).setCell (by simp only; omega) _)
            have D6 : BB ≤ (((w10.setCell ⟨bp, i * 3, none⟩ (.bool r10.s)).setCell ⟨bp, i * 3 + 1, none⟩ (.slice r10.a r10.k r10.c)).setCell ⟨bp, i * 3 + 2, none⟩ (.slice r10.b r10.j r10.d)).heap.size := by simp [World.setCell]; omega
            have D7 : (((w10.setCell ⟨bp, i * 3, none⟩ (.bool r10.s)).setCell ⟨bp, i * 3 + 1, none⟩ (.slice r10.a r10.k r10.c)).setCell ⟨bp, i * 3 + 2, none⟩ (.slice r10.b r10.j r10.d)).cell? ⟨bw, i, none⟩ = some (.int .i64 z) := cell_setN (cell_ext u10 cz) (by simp only; exact obp)
            generalize hY : (((w10.setCell ⟨bp, i * 3, none⟩ (.bool r10.s)).setCell ⟨bp, i * 3 + 1, none⟩ (.slice r10.a r10.k r10.c)).setCell ⟨bp, i * 3 + 2, none⟩ (.slice r10.b r10.j r10.d)) = Y at *
            clear hY hk p0 p1 p2 p3 p4 p5 C1 C2 C3 C4 C5 cz
            have HD : Hid (RpAt w (qs.map Rat.floor) (fracs qs) rs.length bw bp BB (i + 1) Y) := by
              refine ⟨prs ++ [r10], by simp [hpl2], by omega, by rw [HM'.out]; exact D2, by rw [HM'.out]; exact D1, ?_, D5, D6⟩
              intro k hk
              by_cases hki : k < prs.length
              · rw [List.getElem_append_left hki]; exact D3 k hki
              · have hk' : k = i := by simp at hk; omega
                subst hk'
                rw [List.getElem_append_right (by omega)]
                simp only [hpl2, Nat.sub_self, List.getElem_cons_zero]
                rw [HFr.out]
                exact D4
            clear D1 D2 D3 D4 D5 D6 hr10 hr9
            go_wp2_with fail
            go_roundw
            case rel => exact ⟨i + 1, HD.out, by rw [hSu.out]; go_num, by go_num⟩
            case measure => simp [intOf] <;> omega
          · obtain rfl : i = rs.length := by omega
            rw [List.take_of_length_le (by rw [List.length_map, HQL.out]; exact Nat.le_refl _)] at aW b1 b2
            rw [List.take_of_length_le (show (qs.map Rat.floor).length ≤ rs.length by rw [List.length_map, HQL.out]; exact Nat.le_refl _)]
            rw [Nat.sub_self] at aW aG
            obtain ⟨M, hM⟩ : ∃ M : Nat, F - isum (qs.map Rat.floor) = (M : Int) := ⟨(F - isum (qs.map Rat.floor)).toNat, by have := HF.out; have := HM0.out; omega⟩
            have hMn : M ≤ rs.length := by have := HF.out; have := HM1.out; omega
            have HMM : Hid (M = ((qsum qs).floor - isum (qs.map Rat.floor)).toNat) := Lib.hid (by have := HF.out; omega)
            rw [hM]
            clear hM b1 b2
            have hfr : ∀ k, k < rs.length → rsz ((fracs qs)[k]?.getD 0) ≤ 1005 := by
              intro k hk
              have hkq : k < qs.length := by rw [HQL.out]; exact hk
              rw [fracs_get qs k hkq]
              obtain ⟨f1, f2⟩ := HFB.out k hkq
              have h1 : rsz ((qs[k].floor : Int) : Rat) ≤ 2 := by rw [rsz_int]; have := len_natAbs_i64 (z := qs[k].floor) (by omega) (by omega); omega
              have h2 := rsz_sub qs[k] ((qs[k].floor : Int) : Rat)
              have h3 := (h.num k hk).rsz
              omega
            have hnn : ∀ k : Nat, (0 : Rat) ≤ (fracs qs)[k]?.getD 0 := frac_nonneg qs
            have hfl : (qs.map Rat.floor).length = rs.length := by rw [List.length_map, HQL.out]
            have hob : ∀ t, t ≤ rs.length → ∀ k, k < rs.length → -281474976710656 ≤ (apInc (fracs qs) rs.length (qs.map Rat.floor) t)[k]?.getD 0 ∧ (apInc (fracs qs) rs.length (qs.map Rat.floor) t)[k]?.getD 0 ≤ 281474976710657 := by
              intro t ht k hk
              have hkq : k < qs.length := by rw [HQL.out]; exact hk
              have h5 := apInc_near (fracs qs) rs.length (qs.map Rat.floor) hfl t ht k hk
              obtain ⟨f1, f2⟩ := HFB.out k hkq
              rw [List.getElem?_eq_getElem (by simpa using hkq), Option.getD_some, List.getElem_map] at h5
              omega
            have SL : Hid (SelAt w (fracs qs) (qs.map Rat.floor) rs.length bw bp BB 0 wr) := ⟨prs, hpl2, by simpa [apInc] using aW, by simpa [zeros3_zero] using aG, fun k hk => by rw [partAt_zero]; exact hcan k hk, hx, hBw⟩
            have HOB := Lib.hid hob
            have HNN := Lib.hid hnn
            have HFR := Lib.hid hfr
            have HFLL := Lib.hid hfl
            clear aW aG hcan hx hBw hpl2 hob hnn hfr hfl SI
            generalize fracs qs = fs at *
            generalize qs.map Rat.floor = fl at *
            go_wp2_with fail
            go_loopw [6] (fun tt wl => ∃ t : Nat, t ≤ M ∧ SelAt w fs fl rs.length bw bp BB t wl ∧ tt = .int .i64 ((M : Int) - (t : Int))) (fun tt _ => (intOf tt).toNat)
            case atStart => exact ⟨0, Nat.zero_le _, SL.out, by simp⟩
            case round =>
              obtain ⟨t, ht, ⟨prs, hpl, aW, aG, hcan, hx, hBw⟩, rfl⟩ := hrel
              obtain ⟨wl, rfl⟩ : ∃ wl : World, wl = wr := ⟨_, rfl⟩
              by_cases htM : t < M
              · have htn : t < rs.length := by omega
                have hpz : ∀ k, k < rs.length → rsz (partAt fs rs.length t k) ≤ 1005 := by
                  intro k hk
                  by_cases hu : Up fs rs.length t k
                  · rw [partAt_up hu, rsz_int]; decide
                  · rw [partAt_not hu]; exact HFR.out k hk
                have hsg : ∀ k (hk : k < prs.length) V, Ext wl V → Calls Tryz.prog 43 #[.agg #[.bool prs[k].s, .slice prs[k].a prs[k].k prs[k].c, .slice prs[k].b prs[k].j prs[k].d]] V fun e w' => e = .returned (.int .i64 (partAt fs rs.length t k).num.sign) ∧ Ext V w' := by
                  intro k hk V hV
                  have hc := (hcan k hk).ext hV
                  have hs := hc.short (hpz k (by omega))
                  have h5 := r3_Sign V prs[k].s _ _ _ _ _ _ _ _ hc.num hc.den (by omega) (by omega)
                  rw [hc.s, sgn_num, Rat.mkRat_self] at h5
                  rw [hc.s]
                  exact h5
                have hcm : ∀ k m (hk : k < prs.length) (hm : m < prs.length) V, Ext wl V → Calls Tryz.prog 28 #[.agg #[.bool prs[k].s, .slice prs[k].a prs[k].k prs[k].c, .slice prs[k].b prs[k].j prs[k].d], .agg #[.bool prs[m].s, .slice prs[m].a prs[m].k prs[m].c, .slice prs[m].b prs[m].j prs[m].d]] V fun e w' => e = .returned (.int .i64 (cmpQ (partAt fs rs.length t k) (partAt fs rs.length t m))) ∧ Ext V w' := by
                  intro k m hk hm V hV
                  have hc := (hcan k hk).ext hV
                  have hc' := (hcan m hm).ext hV
                  have hs := hc.short (hpz k (by omega))
                  have hs' := hc'.short (hpz m (by omega))
                  have h5 := r3_Compare V prs[k].s _ _ _ _ _ _ _ _ hc.num hc.den prs[m].s _ _ _ _ _ _ _ _ hc'.num hc'.den (by omega) (by omega) (by omega) (by omega)
                  rw [hc.s, sgn_num, Rat.mkRat_self, hc'.s, sgn_num, Rat.mkRat_self] at h5
                  rw [hc.s, hc'.s]
                  exact h5
                have hcl : ∀ k (hk : k < prs.length) V, Ext wl V → V.cell? ⟨bp, k * 3, none⟩ = some (.bool prs[k].s) ∧ V.cell? ⟨bp, k * 3 + 1, none⟩ = some (.slice prs[k].a prs[k].k prs[k].c) ∧ V.cell? ⟨bp, k * 3 + 2, none⟩ = some (.slice prs[k].b prs[k].j prs[k].d) := by
                  intro k hk V hV
                  have aV := aG.ext hV
                  refine ⟨?_, ?_, ?_⟩
                  · rw [aV.cell]; exact ratCells_get prs k 0 hk (by decide)
                  · rw [aV.cell]; exact ratCells_get prs k 1 hk (by decide)
                  · rw [aV.cell]; exact ratCells_get prs k 2 hk (by decide)
                have HSG := Lib.hid hsg; have HCM := Lib.hid hcm; have HCL := Lib.hid hcl
                have HPL := Lib.hid hpl
                clear hsg hcm hcl hpz hpl
                go_wp2_with fail
                go_loopw [11, 12] (fun bb kk wq => ∃ (k : Nat) (bI : Int), k ≤ rs.length ∧ BestTo fs rs.length t k bI ∧ Ext wl wq ∧ bb = .int .i64 bI ∧ kk = .int .i64 k) (fun _ kk _ => rs.length - (intOf kk).toNat)
                case atStart => exact ⟨0, -1, Nat.zero_le _, best_start _ _ _, Ext.refl _, rfl, rfl⟩
                case round =>
                  obtain ⟨k, bI, hk, hB, hY, rfl, rfl⟩ := hrel
                  obtain ⟨wq, rfl⟩ : ∃ wq : World, wq = wr := ⟨_, rfl⟩
                  by_cases hlk : k < rs.length
                  · have hkp : k < prs.length := by rw [HPL.out]; exact hlk
                    have hS1 := HSG.out k hkp
                    have bk0 : (0 : Int) ≤ (k : Int) := by omega
                    have bk1 : (k : Int) < (rs.length : Int) := by omega
                    obtain ⟨c0, c1, c2⟩ := HCL.out k hkp _ hY.drew
                    have hC1 := HCM.out k
                    by_cases hu : Up fs rs.length t k
                    · have tz : decide ((0 : Int) ≤ (partAt fs rs.length t k).num.sign) = false := by rw [partAt_up hu]; exact sign_minus
                      have hKK := fun V hV => HCL.out k hkp V hV
                      generalize (partAt fs rs.length t k).num.sign = sg at hS1 tz
                      generalize prs[k] = y at *
                      have HS1 := Lib.hid hS1
                      have HKK := Lib.hid hKK
                      clear hKK
                      clear hS1 hC1
                      have HB' := Lib.hid (best_skip hu hB)
                      go_wp2_with fail
                      refine wp_region_held_drew (S := fun w' => w'.cell? ⟨bp, k * 3, none⟩ = some (.bool y.s) ∧ w'.cell? ⟨bp, k * 3 + 1, none⟩ = some (.slice y.a y.k y.c) ∧ w'.cell? ⟨bp, k * 3 + 2, none⟩ = some (.slice y.b y.j y.d)) (by kernel_rfl) ⟨c0, c1, c2⟩ (fun hHeld => ?_)
                      refine wpAnyH_take (i := 0) (v := .slice (some ⟨bp, 0, none⟩) rs.length rs.length) rfl (by kernel_rfl) (by kernel_rfl) (by kernel_rfl) (fun _ _ _ h => h) (Or.inl ⟨by rfl, fun w hSw => by (obtain ⟨e0, e1, e2⟩ := hSw; go_simp)⟩) hHeld ?_
                      simp only [List.getElem_toArray, List.getElem_cons_zero, Act.put, List.setIfInBounds_toArray, List.set_cons_zero, List.set_cons_succ]
                      refine wpAnyH_take (i := 1) (v := .int .i64 (k : Int)) rfl (by kernel_rfl) (by kernel_rfl) (by kernel_rfl) (fun _ _ _ h => h) (Or.inl ⟨by rfl, fun w hSw => by (obtain ⟨e0, e1, e2⟩ := hSw; go_simp)⟩) hHeld ?_
                      simp only [List.getElem_toArray, List.getElem_cons_succ, List.getElem_cons_zero, Act.put, List.setIfInBounds_toArray, List.set_cons_zero, List.set_cons_succ]
                      refine wpAnyH_take (i := 2) (v := .pointer (some ⟨bp, k * 3, none⟩)) rfl (by kernel_rfl) (by kernel_rfl) (by kernel_rfl) (fun _ _ _ h => h) (Or.inl ⟨by rfl, fun w hSw => by (obtain ⟨e0, e1, e2⟩ := hSw; go_simp)⟩) hHeld ?_
                      simp only [List.getElem_toArray, List.getElem_cons_succ, List.getElem_cons_zero, Act.put, List.setIfInBounds_toArray, List.set_cons_zero, List.set_cons_succ]
                      refine wpAnyH_take (i := 3) (v := .agg #[.bool y.s, .slice y.a y.k y.c, .slice y.b y.j y.d]) rfl (by kernel_rfl) (by kernel_rfl) (by kernel_rfl) (fun _ _ _ h => h) (Or.inl ⟨by rfl, fun w hSw => by (obtain ⟨e0, e1, e2⟩ := hSw; go_simp)⟩) hHeld ?_
                      simp only [List.getElem_toArray, List.getElem_cons_succ, List.getElem_cons_zero, Act.put, List.setIfInBounds_toArray, List.set_cons_zero, List.set_cons_succ]
                      refine wpAnyH_ready (rs := [4]) (by kernel_rfl) (by simp) ?_
                      refine AllReadyH.cons rfl (fun K hK => ?_) AllReadyH.nil
                      go_simp
                      refine (HS1.out _ hY.drew).mono ?_
                      rintro e w1 ⟨rfl, x1⟩
                      have v1 := hY.drew.trans x1
                      refine hK.out _ _ (HKK.out _ v1) (fun hHeld => ?_)
                      clear hK K
                      try simp only [List.getElem_toArray, List.getElem_cons_succ, List.getElem_cons_zero, Act.put, List.setIfInBounds_toArray, List.set_cons_zero, List.set_cons_succ]
                      refine wpAnyH_take (i := 5) (v := .bool false) rfl (by kernel_rfl) (by kernel_rfl) (by kernel_rfl) (fun _ _ _ h => h) (Or.inl ⟨by rfl, fun w hSw => by (obtain ⟨e0, e1, e2⟩ := hSw; go_simp)⟩) hHeld ?_
                      simp only [List.getElem_toArray, List.getElem_cons_succ, List.getElem_cons_zero, Act.put, List.setIfInBounds_toArray, List.set_cons_zero, List.set_cons_succ]
                      refine wpAnyH_take (i := 6) (v := .bool false) rfl (by kernel_rfl) (by kernel_rfl) (by kernel_rfl) (fun _ _ _ h => h) (Or.inl ⟨by rfl, fun w hSw => by (obtain ⟨e0, e1, e2⟩ := hSw; go_simp)⟩) hHeld ?_
                      simp only [List.getElem_toArray, List.getElem_cons_succ, List.getElem_cons_zero, Act.put, List.setIfInBounds_toArray, List.set_cons_zero, List.set_cons_succ]
                      refine wpAnyH_take (i := 7) (v := undef) rfl (by kernel_rfl) (by kernel_rfl) (by kernel_rfl) (fun _ _ _ h => h) (Or.inr ⟨by rfl, rfl⟩) hHeld ?_
                      simp only [List.getElem_toArray, List.getElem_cons_succ, List.getElem_cons_zero, Act.put, List.setIfInBounds_toArray, List.set_cons_zero, List.set_cons_succ]
                      refine wpAnyH_take (i := 8) (v := undef) rfl (by kernel_rfl) (by kernel_rfl) (by kernel_rfl) (fun _ _ _ h => h) (Or.inr ⟨by rfl, rfl⟩) hHeld ?_
                      simp only [List.getElem_toArray, List.getElem_cons_succ, List.getElem_cons_zero, Act.put, List.setIfInBounds_toArray, List.set_cons_zero, List.set_cons_succ]
                      refine wpAnyH_take (i := 9) (v := undef) rfl (by kernel_rfl) (by kernel_rfl) (by kernel_rfl) (fun _ _ _ h => h) (Or.inr ⟨by rfl, rfl⟩) hHeld ?_
                      simp only [List.getElem_toArray, List.getElem_cons_succ, List.getElem_cons_zero, Act.put, List.setIfInBounds_toArray, List.set_cons_zero, List.set_cons_succ]
                      refine wpAnyH_take (i := 10) (v := undef) rfl (by kernel_rfl) (by kernel_rfl) (by kernel_rfl) (fun _ _ _ h => h) (Or.inr ⟨by rfl, rfl⟩) hHeld ?_
                      simp only [List.getElem_toArray, List.getElem_cons_succ, List.getElem_cons_zero, Act.put, List.setIfInBounds_toArray, List.set_cons_zero, List.set_cons_succ]
                      refine wpAnyH_take (i := 11) (v := undef) rfl (by kernel_rfl) (by kernel_rfl) (by kernel_rfl) (fun _ _ _ h => h) (Or.inr ⟨by rfl, rfl⟩) hHeld ?_
                      simp only [List.getElem_toArray, List.getElem_cons_succ, List.getElem_cons_zero, Act.put, List.setIfInBounds_toArray, List.set_cons_zero, List.set_cons_succ]
                      refine wpAnyH_take (i := 12) (v := undef) rfl (by kernel_rfl) (by kernel_rfl) (by kernel_rfl) (fun _ _ _ h => h) (Or.inr ⟨by rfl, rfl⟩) hHeld ?_
                      simp only [List.getElem_toArray, List.getElem_cons_succ, List.getElem_cons_zero, Act.put, List.setIfInBounds_toArray, List.set_cons_zero, List.set_cons_succ]
                      refine wpAnyH_take (i := 13) (v := undef) rfl (by kernel_rfl) (by kernel_rfl) (by kernel_rfl) (fun _ _ _ h => h) (Or.inr ⟨by rfl, rfl⟩) hHeld ?_
                      simp only [List.getElem_toArray, List.getElem_cons_succ, List.getElem_cons_zero, Act.put, List.setIfInBounds_toArray, List.set_cons_zero, List.set_cons_succ]
                      refine wpAnyH_take (i := 14) (v := undef) rfl (by kernel_rfl) (by kernel_rfl) (by kernel_rfl) (fun _ _ _ h => h) (Or.inr ⟨by rfl, rfl⟩) hHeld ?_
                      simp only [List.getElem_toArray, List.getElem_cons_succ, List.getElem_cons_zero, Act.put, List.setIfInBounds_toArray, List.set_cons_zero, List.set_cons_succ]
                      refine wpAnyH_take (i := 15) (v := undef) rfl (by kernel_rfl) (by kernel_rfl) (by kernel_rfl) (fun _ _ _ h => h) (Or.inr ⟨by rfl, rfl⟩) hHeld ?_
                      simp only [List.getElem_toArray, List.getElem_cons_succ, List.getElem_cons_zero, Act.put, List.setIfInBounds_toArray, List.set_cons_zero, List.set_cons_succ]
                      refine wpAnyH_take (i := 16) (v := undef) rfl (by kernel_rfl) (by kernel_rfl) (by kernel_rfl) (fun _ _ _ h => h) (Or.inr ⟨by rfl, rfl⟩) hHeld ?_
                      simp only [List.getElem_toArray, List.getElem_cons_succ, List.getElem_cons_zero, Act.put, List.setIfInBounds_toArray, List.set_cons_zero, List.set_cons_succ]
                      refine wpAnyH_take (i := 17) (v := undef) rfl (by kernel_rfl) (by kernel_rfl) (by kernel_rfl) (fun _ _ _ h => h) (Or.inr ⟨by rfl, rfl⟩) hHeld ?_
                      simp only [List.getElem_toArray, List.getElem_cons_succ, List.getElem_cons_zero, Act.put, List.setIfInBounds_toArray, List.set_cons_zero, List.set_cons_succ]
                      refine wpAnyH_take (i := 18) (v := undef) rfl (by kernel_rfl) (by kernel_rfl) (by kernel_rfl) (fun _ _ _ h => h) (Or.inr ⟨by rfl, rfl⟩) hHeld ?_
                      simp only [List.getElem_toArray, List.getElem_cons_succ, List.getElem_cons_zero, Act.put, List.setIfInBounds_toArray, List.set_cons_zero, List.set_cons_succ]
                      refine wpAnyH_take (i := 19) (v := undef) rfl (by kernel_rfl) (by kernel_rfl) (by kernel_rfl) (fun _ _ _ h => h) (Or.inr ⟨by rfl, rfl⟩) hHeld ?_
                      simp only [List.getElem_toArray, List.getElem_cons_succ, List.getElem_cons_zero, Act.put, List.setIfInBounds_toArray, List.set_cons_zero, List.set_cons_succ]
                      refine wpAnyH_take (i := 20) (v := undef) rfl (by kernel_rfl) (by kernel_rfl) (by kernel_rfl) (fun _ _ _ h => h) (Or.inr ⟨by rfl, rfl⟩) hHeld ?_
                      simp only [List.getElem_toArray, List.getElem_cons_succ, List.getElem_cons_zero, Act.put, List.setIfInBounds_toArray, List.set_cons_zero, List.set_cons_succ]
                      refine wpAnyH_take (i := 21) (v := .bool false) rfl (by kernel_rfl) (by kernel_rfl) (by kernel_rfl) (fun _ _ _ h => h) (Or.inl ⟨by rfl, fun w hSw => by (obtain ⟨e0, e1, e2⟩ := hSw; go_simp)⟩) hHeld ?_
                      simp only [List.getElem_toArray, List.getElem_cons_succ, List.getElem_cons_zero, Act.put, List.setIfInBounds_toArray, List.set_cons_zero, List.set_cons_succ]
                      refine wpAnyH_done (by kernel_rfl) ?_ _
                      all_goals go_wp2_with fail
                      all_goals exact ⟨⟨k + 1, bI, by omega, HB'.out, v1, rfl, by go_num⟩, by simp only [intOf]; omega⟩
                    · have tz : decide ((0 : Int) ≤ (partAt fs rs.length t k).num.sign) = true := by rw [partAt_not hu]; exact sign_nonneg (HNN.out k)
                      rcases id hB with ⟨rfl, _⟩ | ⟨m, rfl, hmk, hmu, _⟩
                      · have hKK := fun V hV => HCL.out k hkp V hV
                        generalize (partAt fs rs.length t k).num.sign = sg at hS1 tz
                        generalize prs[k] = y at *
                        have HS1 := Lib.hid hS1
                        have HKK := Lib.hid hKK
                        clear hKK
                        clear hS1 hC1
                        have HB' := Lib.hid (best_first hu hB)
                        go_wp2_with fail
                        refine wp_region_held_drew (S := fun w' => w'.cell? ⟨bp, k * 3, none⟩ = some (.bool y.s) ∧ w'.cell? ⟨bp, k * 3 + 1, none⟩ = some (.slice y.a y.k y.c) ∧ w'.cell? ⟨bp, k * 3 + 2, none⟩ = some (.slice y.b y.j y.d)) (by kernel_rfl) ⟨c0, c1, c2⟩ (fun hHeld => ?_)
                        refine wpAnyH_take (i := 0) (v := .slice (some ⟨bp, 0, none⟩) rs.length rs.length) rfl (by kernel_rfl) (by kernel_rfl) (by kernel_rfl) (fun _ _ _ h => h) (Or.inl ⟨by rfl, fun w hSw => by (obtain ⟨e0, e1, e2⟩ := hSw; go_simp)⟩) hHeld ?_
                        simp only [List.getElem_toArray, List.getElem_cons_zero, Act.put, List.setIfInBounds_toArray, List.set_cons_zero, List.set_cons_succ]
                        refine wpAnyH_take (i := 1) (v := .int .i64 (k : Int)) rfl (by kernel_rfl) (by kernel_rfl) (by kernel_rfl) (fun _ _ _ h => h) (Or.inl ⟨by rfl, fun w hSw => by (obtain ⟨e0, e1, e2⟩ := hSw; go_simp)⟩) hHeld ?_
                        simp only [List.getElem_toArray, List.getElem_cons_succ, List.getElem_cons_zero, Act.put, List.setIfInBounds_toArray, List.set_cons_zero, List.set_cons_succ]
                        refine wpAnyH_take (i := 2) (v := .pointer (some ⟨bp, k * 3, none⟩)) rfl (by kernel_rfl) (by kernel_rfl) (by kernel_rfl) (fun _ _ _ h => h) (Or.inl ⟨by rfl, fun w hSw => by (obtain ⟨e0, e1, e2⟩ := hSw; go_simp)⟩) hHeld ?_
                        simp only [List.getElem_toArray, List.getElem_cons_succ, List.getElem_cons_zero, Act.put, List.setIfInBounds_toArray, List.set_cons_zero, List.set_cons_succ]
                        refine wpAnyH_take (i := 3) (v := .agg #[.bool y.s, .slice y.a y.k y.c, .slice y.b y.j y.d]) rfl (by kernel_rfl) (by kernel_rfl) (by kernel_rfl) (fun _ _ _ h => h) (Or.inl ⟨by rfl, fun w hSw => by (obtain ⟨e0, e1, e2⟩ := hSw; go_simp)⟩) hHeld ?_
                        simp only [List.getElem_toArray, List.getElem_cons_succ, List.getElem_cons_zero, Act.put, List.setIfInBounds_toArray, List.set_cons_zero, List.set_cons_succ]
                        refine wpAnyH_ready (rs := [4]) (by kernel_rfl) (by simp) ?_
                        refine AllReadyH.cons rfl (fun K hK => ?_) AllReadyH.nil
                        go_simp
                        refine (HS1.out _ hY.drew).mono ?_
                        rintro e w1 ⟨rfl, x1⟩
                        have v1 := hY.drew.trans x1
                        refine hK.out _ _ (HKK.out _ v1) (fun hHeld => ?_)
                        clear hK K
                        try simp only [List.getElem_toArray, List.getElem_cons_succ, List.getElem_cons_zero, Act.put, List.setIfInBounds_toArray, List.set_cons_zero, List.set_cons_succ]
                        refine wpAnyH_take (i := 5) (v := .bool true) rfl (by kernel_rfl) (by kernel_rfl) (by kernel_rfl) (fun _ _ _ h => h) (Or.inl ⟨by rfl, fun w hSw => by (obtain ⟨e0, e1, e2⟩ := hSw; go_simp)⟩) hHeld ?_
                        simp only [List.getElem_toArray, List.getElem_cons_succ, List.getElem_cons_zero, Act.put, List.setIfInBounds_toArray, List.set_cons_zero, List.set_cons_succ]
                        refine wpAnyH_take (i := 6) (v := .bool true) rfl (by kernel_rfl) (by kernel_rfl) (by kernel_rfl) (fun _ _ _ h => h) (Or.inl ⟨by rfl, fun w hSw => by (obtain ⟨e0, e1, e2⟩ := hSw; go_simp)⟩) hHeld ?_
                        simp only [List.getElem_toArray, List.getElem_cons_succ, List.getElem_cons_zero, Act.put, List.setIfInBounds_toArray, List.set_cons_zero, List.set_cons_succ]
                        refine wpAnyH_take (i := 7) (v := .int .i64 (-1)) rfl (by kernel_rfl) (by kernel_rfl) (by kernel_rfl) (fun _ _ _ h => h) (Or.inl ⟨by rfl, fun w hSw => by (obtain ⟨e0, e1, e2⟩ := hSw; go_simp)⟩) hHeld ?_
                        simp only [List.getElem_toArray, List.getElem_cons_succ, List.getElem_cons_zero, Act.put, List.setIfInBounds_toArray, List.set_cons_zero, List.set_cons_succ]
                        refine wpAnyH_take (i := 8) (v := .bool true) rfl (by kernel_rfl) (by kernel_rfl) (by kernel_rfl) (fun _ _ _ h => h) (Or.inl ⟨by rfl, fun w hSw => by (obtain ⟨e0, e1, e2⟩ := hSw; go_simp)⟩) hHeld ?_
                        simp only [List.getElem_toArray, List.getElem_cons_succ, List.getElem_cons_zero, Act.put, List.setIfInBounds_toArray, List.set_cons_zero, List.set_cons_succ]
                        refine wpAnyH_take (i := 9) (v := .bool true) rfl (by kernel_rfl) (by kernel_rfl) (by kernel_rfl) (fun _ _ _ h => h) (Or.inl ⟨by rfl, fun w hSw => by (obtain ⟨e0, e1, e2⟩ := hSw; go_simp)⟩) hHeld ?_
                        simp only [List.getElem_toArray, List.getElem_cons_succ, List.getElem_cons_zero, Act.put, List.setIfInBounds_toArray, List.set_cons_zero, List.set_cons_succ]
                        refine wpAnyH_take (i := 10) (v := undef) rfl (by kernel_rfl) (by kernel_rfl) (by kernel_rfl) (fun _ _ _ h => h) (Or.inr ⟨by rfl, rfl⟩) hHeld ?_
                        simp only [List.getElem_toArray, List.getElem_cons_succ, List.getElem_cons_zero, Act.put, List.setIfInBounds_toArray, List.set_cons_zero, List.set_cons_succ]
                        refine wpAnyH_take (i := 11) (v := undef) rfl (by kernel_rfl) (by kernel_rfl) (by kernel_rfl) (fun _ _ _ h => h) (Or.inr ⟨by rfl, rfl⟩) hHeld ?_
                        simp only [List.getElem_toArray, List.getElem_cons_succ, List.getElem_cons_zero, Act.put, List.setIfInBounds_toArray, List.set_cons_zero, List.set_cons_succ]
                        refine wpAnyH_take (i := 12) (v := undef) rfl (by kernel_rfl) (by kernel_rfl) (by kernel_rfl) (fun _ _ _ h => h) (Or.inr ⟨by rfl, rfl⟩) hHeld ?_
                        simp only [List.getElem_toArray, List.getElem_cons_succ, List.getElem_cons_zero, Act.put, List.setIfInBounds_toArray, List.set_cons_zero, List.set_cons_succ]
                        refine wpAnyH_take (i := 13) (v := undef) rfl (by kernel_rfl) (by kernel_rfl) (by kernel_rfl) (fun _ _ _ h => h) (Or.inr ⟨by rfl, rfl⟩) hHeld ?_
                        simp only [List.getElem_toArray, List.getElem_cons_succ, List.getElem_cons_zero, Act.put, List.setIfInBounds_toArray, List.set_cons_zero, List.set_cons_succ]
                        refine wpAnyH_take (i := 14) (v := undef) rfl (by kernel_rfl) (by kernel_rfl) (by kernel_rfl) (fun _ _ _ h => h) (Or.inr ⟨by rfl, rfl⟩) hHeld ?_
                        simp only [List.getElem_toArray, List.getElem_cons_succ, List.getElem_cons_zero, Act.put, List.setIfInBounds_toArray, List.set_cons_zero, List.set_cons_succ]
                        refine wpAnyH_take (i := 15) (v := undef) rfl (by kernel_rfl) (by kernel_rfl) (by kernel_rfl) (fun _ _ _ h => h) (Or.inr ⟨by rfl, rfl⟩) hHeld ?_
                        simp only [List.getElem_toArray, List.getElem_cons_succ, List.getElem_cons_zero, Act.put, List.setIfInBounds_toArray, List.set_cons_zero, List.set_cons_succ]
                        refine wpAnyH_take (i := 16) (v := undef) rfl (by kernel_rfl) (by kernel_rfl) (by kernel_rfl) (fun _ _ _ h => h) (Or.inr ⟨by rfl, rfl⟩) hHeld ?_
                        simp only [List.getElem_toArray, List.getElem_cons_succ, List.getElem_cons_zero, Act.put, List.setIfInBounds_toArray, List.set_cons_zero, List.set_cons_succ]
                        refine wpAnyH_take (i := 17) (v := undef) rfl (by kernel_rfl) (by kernel_rfl) (by kernel_rfl) (fun _ _ _ h => h) (Or.inr ⟨by rfl, rfl⟩) hHeld ?_
                        simp only [List.getElem_toArray, List.getElem_cons_succ, List.getElem_cons_zero, Act.put, List.setIfInBounds_toArray, List.set_cons_zero, List.set_cons_succ]
                        refine wpAnyH_take (i := 18) (v := undef) rfl (by kernel_rfl) (by kernel_rfl) (by kernel_rfl) (fun _ _ _ h => h) (Or.inr ⟨by rfl, rfl⟩) hHeld ?_
                        simp only [List.getElem_toArray, List.getElem_cons_succ, List.getElem_cons_zero, Act.put, List.setIfInBounds_toArray, List.set_cons_zero, List.set_cons_succ]
                        refine wpAnyH_take (i := 19) (v := undef) rfl (by kernel_rfl) (by kernel_rfl) (by kernel_rfl) (fun _ _ _ h => h) (Or.inr ⟨by rfl, rfl⟩) hHeld ?_
                        simp only [List.getElem_toArray, List.getElem_cons_succ, List.getElem_cons_zero, Act.put, List.setIfInBounds_toArray, List.set_cons_zero, List.set_cons_succ]
                        refine wpAnyH_take (i := 20) (v := .bool true) rfl (by kernel_rfl) (by kernel_rfl) (by kernel_rfl) (fun _ _ _ h => h) (Or.inl ⟨by rfl, fun w hSw => by (obtain ⟨e0, e1, e2⟩ := hSw; go_simp)⟩) hHeld ?_
                        simp only [List.getElem_toArray, List.getElem_cons_succ, List.getElem_cons_zero, Act.put, List.setIfInBounds_toArray, List.set_cons_zero, List.set_cons_succ]
                        refine wpAnyH_take (i := 21) (v := .bool true) rfl (by kernel_rfl) (by kernel_rfl) (by kernel_rfl) (fun _ _ _ h => h) (Or.inl ⟨by rfl, fun w hSw => by (obtain ⟨e0, e1, e2⟩ := hSw; go_simp)⟩) hHeld ?_
                        simp only [List.getElem_toArray, List.getElem_cons_succ, List.getElem_cons_zero, Act.put, List.setIfInBounds_toArray, List.set_cons_zero, List.set_cons_succ]
                        refine wpAnyH_done (by kernel_rfl) ?_ _
                        all_goals go_wp2_with fail
                        all_goals exact ⟨⟨k + 1, (k : Int), by omega, HB'.out, v1, rfl, by go_num⟩, by simp only [intOf]; omega⟩
                      · have hmp : m < prs.length := by rw [HPL.out]; omega
                        have hC2 := hC1 m hkp hmp
                        have hct : (decide ((0 : Int) < cmpQ (partAt fs rs.length t k) (partAt fs rs.length t m)) = true ∧ BestTo fs rs.length t (k + 1) (k : Int)) ∨ (decide ((0 : Int) < cmpQ (partAt fs rs.length t k) (partAt fs rs.length t m)) = false ∧ BestTo fs rs.length t (k + 1) (m : Int)) := by
                          rw [partAt_not hu, partAt_not hmu]
                          by_cases hl : fs[m]?.getD 0 < fs[k]?.getD 0
                          · exact Or.inl ⟨decide_eq_true (cmpQ_gt.2 hl), best_more hu hB hl⟩
                          · exact Or.inr ⟨decide_eq_false (fun hh => hl (cmpQ_gt.1 hh)), best_stay hB hl⟩
                        obtain ⟨d0, d1, d2⟩ := HCL.out m hmp _ hY.drew
                        have hKK : ∀ V, Ext wl V → (V.cell? ⟨bp, k * 3, none⟩ = some (.bool prs[k].s) ∧ V.cell? ⟨bp, k * 3 + 1, none⟩ = some (.slice prs[k].a prs[k].k prs[k].c) ∧ V.cell? ⟨bp, k * 3 + 2, none⟩ = some (.slice prs[k].b prs[k].j prs[k].d)) ∧ (V.cell? ⟨bp, m * 3, none⟩ = some (.bool prs[m].s) ∧ V.cell? ⟨bp, m * 3 + 1, none⟩ = some (.slice prs[m].a prs[m].k prs[m].c) ∧ V.cell? ⟨bp, m * 3 + 2, none⟩ = some (.slice prs[m].b prs[m].j prs[m].d)) := fun V hV => ⟨HCL.out k hkp V hV, HCL.out m hmp V hV⟩
                        generalize cmpQ (partAt fs rs.length t k) (partAt fs rs.length t m) = ct at *
                        generalize (partAt fs rs.length t k).num.sign = sg at hS1 tz
                        generalize prs[k] = y at *
                        generalize prs[m] = y' at *
                        have HS1 := Lib.hid hS1
                        have HC2 := Lib.hid hC2
                        have HCT := Lib.hid hct
                        have HKK := Lib.hid hKK
                        clear hS1 hC1 hC2 hct hKK c0 c1 c2 d0 d1 d2
                        have bm0 : (0 : Int) ≤ (m : Int) := by omega
                        have bm1 : (m : Int) < (rs.length : Int) := by omega
                        have bm2 : decide ((m : Int) < 0) = false := by simp
                        have v0 := hY.drew
                        obtain ⟨⟨c0, c1, c2⟩, d0, d1, d2⟩ := HKK.out _ v0
                        have hkk : wq.drew.cell? ⟨bp, k * 3, none⟩ = some (.bool y.s) ∧ wq.drew.cell? ⟨bp, k * 3 + 1, none⟩ = some (.slice y.a y.k y.c) ∧ wq.drew.cell? ⟨bp, k * 3 + 2, none⟩ = some (.slice y.b y.j y.d) ∧ wq.drew.cell? ⟨bp, m * 3, none⟩ = some (.bool y'.s) ∧ wq.drew.cell? ⟨bp, m * 3 + 1, none⟩ = some (.slice y'.a y'.k y'.c) ∧ wq.drew.cell? ⟨bp, m * 3 + 2, none⟩ = some (.slice y'.b y'.j y'.d) := ⟨c0, c1, c2, d0, d1, d2⟩
                        clear c0 c1 c2 d0 d1 d2
                        rcases HCT.out with ⟨z1, hb⟩ | ⟨z1, hb⟩
                        · have HB' := Lib.hid hb
                          clear hb
                          go_wp2_with fail
                          go_region_held3 (fun w' => w'.cell? ⟨bp, k * 3, none⟩ = some (.bool y.s) ∧ w'.cell? ⟨bp, k * 3 + 1, none⟩ = some (.slice y.a y.k y.c) ∧ w'.cell? ⟨bp, k * 3 + 2, none⟩ = some (.slice y.b y.j y.d) ∧ w'.cell? ⟨bp, m * 3, none⟩ = some (.bool y'.s) ∧ w'.cell? ⟨bp, m * 3 + 1, none⟩ = some (.slice y'.a y'.k y'.c) ∧ w'.cell? ⟨bp, m * 3 + 2, none⟩ = some (.slice y'.b y'.j y'.d)) (exact hkk) (first
                            | (go_at_call 43; (with_reducible refine (HS1.out _ v0).mono ?_); rintro e w1 ⟨rfl, x1⟩; have v1 := v0.trans x1; have hkk : w1.cell? ⟨bp, k * 3, none⟩ = some (.bool y.s) ∧ w1.cell? ⟨bp, k * 3 + 1, none⟩ = some (.slice y.a y.k y.c) ∧ w1.cell? ⟨bp, k * 3 + 2, none⟩ = some (.slice y.b y.j y.d) ∧ w1.cell? ⟨bp, m * 3, none⟩ = some (.bool y'.s) ∧ w1.cell? ⟨bp, m * 3 + 1, none⟩ = some (.slice y'.a y'.k y'.c) ∧ w1.cell? ⟨bp, m * 3 + 2, none⟩ = some (.slice y'.b y'.j y'.d) := (by obtain ⟨⟨c0, c1, c2⟩, d0, d1, d2⟩ := HKK.out _ v1; exact ⟨c0, c1, c2, d0, d1, d2⟩))
                            | (go_at_call 28; (with_reducible refine (HC2.out _ v1).mono ?_); rintro e w2 ⟨rfl, x2⟩; have v2 := v1.trans x2; have hkk : w2.cell? ⟨bp, k * 3, none⟩ = some (.bool y.s) ∧ w2.cell? ⟨bp, k * 3 + 1, none⟩ = some (.slice y.a y.k y.c) ∧ w2.cell? ⟨bp, k * 3 + 2, none⟩ = some (.slice y.b y.j y.d) ∧ w2.cell? ⟨bp, m * 3, none⟩ = some (.bool y'.s) ∧ w2.cell? ⟨bp, m * 3 + 1, none⟩ = some (.slice y'.a y'.k y'.c) ∧ w2.cell? ⟨bp, m * 3 + 2, none⟩ = some (.slice y'.b y'.j y'.d) := (by obtain ⟨⟨c0, c1, c2⟩, d0, d1, d2⟩ := HKK.out _ v2; exact ⟨c0, c1, c2, d0, d1, d2⟩)))
                          clear hkk
                          go_wp2_with fail
                          exact ⟨⟨k + 1, (k : Int), by omega, HB'.out, v2, rfl, by go_num⟩, by simp only [intOf]; omega⟩
                        · have HB' := Lib.hid hb
                          clear hb
                          go_wp2_with fail
                          go_region_held3 (fun w' => w'.cell? ⟨bp, k * 3, none⟩ = some (.bool y.s) ∧ w'.cell? ⟨bp, k * 3 + 1, none⟩ = some (.slice y.a y.k y.c) ∧ w'.cell? ⟨bp, k * 3 + 2, none⟩ = some (.slice y.b y.j y.d) ∧ w'.cell? ⟨bp, m * 3, none⟩ = some (.bool y'.s) ∧ w'.cell? ⟨bp, m * 3 + 1, none⟩ = some (.slice y'.a y'.k y'.c) ∧ w'.cell? ⟨bp, m * 3 + 2, none⟩ = some (.slice y'.b y'.j y'.d)) (exact hkk) (first
                            | (go_at_call 43; (with_reducible refine (HS1.out _ v0).mono ?_); rintro e w1 ⟨rfl, x1⟩; have v1 := v0.trans x1; have hkk : w1.cell? ⟨bp, k * 3, none⟩ = some (.bool y.s) ∧ w1.cell? ⟨bp, k * 3 + 1, none⟩ = some (.slice y.a y.k y.c) ∧ w1.cell? ⟨bp, k * 3 + 2, none⟩ = some (.slice y.b y.j y.d) ∧ w1.cell? ⟨bp, m * 3, none⟩ = some (.bool y'.s) ∧ w1.cell? ⟨bp, m * 3 + 1, none⟩ = some (.slice y'.a y'.k y'.c) ∧ w1.cell? ⟨bp, m * 3 + 2, none⟩ = some (.slice y'.b y'.j y'.d) := (by obtain ⟨⟨c0, c1, c2⟩, d0, d1, d2⟩ := HKK.out _ v1; exact ⟨c0, c1, c2, d0, d1, d2⟩))
                            | (go_at_call 28; (with_reducible refine (HC2.out _ v1).mono ?_); rintro e w2 ⟨rfl, x2⟩; have v2 := v1.trans x2; have hkk : w2.cell? ⟨bp, k * 3, none⟩ = some (.bool y.s) ∧ w2.cell? ⟨bp, k * 3 + 1, none⟩ = some (.slice y.a y.k y.c) ∧ w2.cell? ⟨bp, k * 3 + 2, none⟩ = some (.slice y.b y.j y.d) ∧ w2.cell? ⟨bp, m * 3, none⟩ = some (.bool y'.s) ∧ w2.cell? ⟨bp, m * 3 + 1, none⟩ = some (.slice y'.a y'.k y'.c) ∧ w2.cell? ⟨bp, m * 3 + 2, none⟩ = some (.slice y'.b y'.j y'.d) := (by obtain ⟨⟨c0, c1, c2⟩, d0, d1, d2⟩ := HKK.out _ v2; exact ⟨c0, c1, c2, d0, d1, d2⟩)))
                          clear hkk
                          go_wp2_with fail
                          exact ⟨⟨k + 1, (m : Int), by omega, HB'.out, v2, rfl, by go_num⟩, by simp only [intOf]; omega⟩
                  · obtain rfl : k = rs.length := by omega
                    obtain rfl := best_end htn hB
                    have hbs := apAt_lt fs rs.length t htn
                    have hbp : apAt fs rs.length t < prs.length := by rw [HPL.out]; exact hbs
                    obtain ⟨vb1, vb2⟩ := HOB.out t (by omega) _ hbs
                    have hil : (apInc fs rs.length fl t).length = rs.length := by rw [apInc_length, HFLL.out]
                    have aWq := aW.ext hY
                    have q0 : wq.cell? ⟨bw, apAt fs rs.length t, none⟩ = some (.int .i64 ((apInc fs rs.length fl t)[apAt fs rs.length t]?.getD 0)) := by
                      rw [aWq.cell, i64s_get _ _ (by rw [hil]; exact hbs), List.getElem?_eq_getElem (by rw [hil]; exact hbs)]; rfl
                    have q1 := aWq.frozen (apAt fs rs.length t)
                    have HNX : Hid (apInc fs rs.length fl (t + 1) = (apInc fs rs.length fl t).set (apAt fs rs.length t) ((apInc fs rs.length fl t)[apAt fs rs.length t]?.getD 0 + 1)) := Lib.hid rfl
                    have HSET : Hid (∀ v : Int, (i64s (apInc fs rs.length fl t)).set (apAt fs rs.length t) (.int .i64 v) = i64s ((apInc fs rs.length fl t).set (apAt fs rs.length t) v)) := Lib.hid (fun v => by simp [i64s, List.map_set])
                    have HPS : Hid (∀ k, partAt fs rs.length (t + 1) k = if apAt fs rs.length t = k then ((-1 : Int) : Rat) else partAt fs rs.length t k) := Lib.hid (fun k => partAt_set fs rs.length t k)
                    have HM1 : Hid (∀ V, Calls Tryz.prog 32 #[.int .i64 (-1)] V (NewRat ((-1 : Int) : Rat) V)) := Lib.hid (fun V => r3_FromInt V (-1) (by decide) (by decide))
                    generalize (apInc fs rs.length fl t)[apAt fs rs.length t]?.getD 0 = v at *
                    have HBS : Hid (apAt fs rs.length t = apAt fs rs.length t) := Lib.hid rfl
                    generalize hbb : apAt fs rs.length t = bs at *
                    have bb0 : (0 : Int) ≤ (bs : Int) := by omega
                    have bb1 : (bs : Int) < (rs.length : Int) := by omega
                    clear hbb hB HBS hil
                    have aGq := aG.ext hY
                    have hcq := fun k hk => (hcan k hk).ext hY
                    have hxq := hx.trans hY
                    have szq := hY.size
                    go_wp2_with fail
                    have C1 : Arr (wq.setCell ⟨bw, bs, none⟩ (.int .i64 (v + 1))) bw 3 (i64s (apInc fs rs.length fl (t + 1))) := by
                      have h5 := aWq.set bs (.int .i64 (v + 1))
                      rw [HSET.out, ← HNX.out] at h5
                      exact h5
                    have C2 : Arr (wq.setCell ⟨bw, bs, none⟩ (.int .i64 (v + 1))) bp 55 (ratCells prs) := aGq.other _ _ (by simp only; exact obp)
                    have C3 := fun k hk => (hcq k hk).setCell ⟨bw, bs, none⟩ (.int .i64 (v + 1)) (by simp only; omega)
                    have C4 : Ext w (wq.setCell ⟨bw, bs, none⟩ (.int .i64 (v + 1))) := hxq.setCell (by simp only; omega) _
                    have C5 : BB ≤ (wq.setCell ⟨bw, bs, none⟩ (.int .i64 (v + 1))).heap.size := by simp [World.setCell]; omega
                    generalize hX : wq.setCell ⟨bw, bs, none⟩ (.int .i64 (v + 1)) = X at *
                    clear hX q0 q1 aWq aGq hcq hxq aW aG hcan hx HSG HCM HCL
                    refine (HM1.out _).mono ?_
                    intro e w5' hN
                    obtain ⟨r5, rfl, hr5, x5⟩ := hN.isCan
                    clear hN
                    have D0 := C2.ext x5
                    have n0 : w5'.cell? ⟨bp, bs * 3, none⟩ = some (.bool prs[bs].s) := by rw [D0.cell]; exact ratCells_get prs bs 0 hbp (by decide)
                    have n1 : w5'.cell? ⟨bp, bs * 3 + 1, none⟩ = some (.slice prs[bs].a prs[bs].k prs[bs].c) := by rw [D0.cell]; exact ratCells_get prs bs 1 hbp (by decide)
                    have n2 : w5'.cell? ⟨bp, bs * 3 + 2, none⟩ = some (.slice prs[bs].b prs[bs].j prs[bs].d) := by rw [D0.cell]; exact ratCells_get prs bs 2 hbp (by decide)
                    have n3 := D0.frozen (bs * 3)
                    have n4 := D0.frozen (bs * 3 + 1)
                    have n5 := D0.frozen (bs * 3 + 2)
                    go_wp2_with fail
                    have sx5 := x5.size
                    have D1 : Arr (((w5'.setCell ⟨bp, bs * 3, none⟩ (.bool r5.s)).setCell ⟨bp, bs * 3 + 1, none⟩ (.slice r5.a r5.k r5.c)).setCell ⟨bp, bs * 3 + 2, none⟩ (.slice r5.b r5.j r5.d)) bp 55 (ratCells (prs.set bs r5)) := by
                      have h5 := ((D0.set (bs * 3) (.bool r5.s)).set (bs * 3 + 1) (.slice r5.a r5.k r5.c)).set (bs * 3 + 2) (.slice r5.b r5.j r5.d)
                      rw [ratCells_set prs bs r5 hbp] at h5
                      exact h5
                    have D2 : Arr (((w5'.setCell ⟨bp, bs * 3, none⟩ (.bool r5.s)).setCell ⟨bp, bs * 3 + 1, none⟩ (.slice r5.a r5.k r5.c)).setCell ⟨bp, bs * 3 + 2, none⟩ (.slice r5.b r5.j r5.d)) bw 3 (i64s (apInc fs rs.length fl (t + 1))) := (((C1.ext x5).other _ _ (by simp only; exact fun e => obp e.symm)).other _ _ (by simp only; exact fun e => obp e.symm)).other _ _ (by simp only; exact fun e => obp e.symm)
                    have D3 := fun k hk => ((((C3 k hk).ext x5).setCell ⟨bp, bs * 3, none⟩ (.bool r5.s) (by simp only; omega)).setCell ⟨bp, bs * 3 + 1, none⟩ (.slice r5.a r5.k r5.c) (by simp only; omega)).setCell ⟨bp, bs * 3 + 2, none⟩ (.slice r5.b r5.j r5.d) (by simp only; omega)
                    have D4 := (((hr5.mono C5).setCell ⟨bp, bs * 3, none⟩ (.bool r5.s) (by simp only; omega)).setCell ⟨bp, bs * 3 + 1, none⟩ (.slice r5.a r5.k r5.c) (by simp only; omega)).setCell ⟨bp, bs * 3 + 2, none⟩ (.slice r5.b r5.j r5.d) (by simp only; omega)
                    have D5 : Ext w (((w5'.setCell ⟨bp, bs * 3, none⟩ (.bool r5.s)).setCell ⟨bp, bs * 3 + 1, none⟩ (.slice r5.a r5.k r5.c)).setCell ⟨bp, bs * 3 + 2, none⟩ (.slice r5.b r5.j r5.d)) := ((((C4.trans x5).setCell (by simp only; omega) _).setCell (by simp only; omega) _).setCell (by simp only; omega) _)
                    have D6 : BB ≤ (((w5'.setCell ⟨bp, bs * 3, none⟩ (.bool r5.s)).setCell ⟨bp, bs * 3 + 1, none⟩ (.slice r5.a r5.k r5.c)).setCell ⟨bp, bs * 3 + 2, none⟩ (.slice r5.b r5.j r5.d)).heap.size := by simp [World.setCell]; omega
                    have HD : SelAt w fs fl rs.length bw bp BB (t + 1) (((w5'.setCell ⟨bp, bs * 3, none⟩ (.bool r5.s)).setCell ⟨bp, bs * 3 + 1, none⟩ (.slice r5.a r5.k r5.c)).setCell ⟨bp, bs * 3 + 2, none⟩ (.slice r5.b r5.j r5.d)) := by
                      refine ⟨prs.set bs r5, by rw [List.length_set, HPL.out], D2, D1, ?_, D5, D6⟩
                      intro k hk
                      have hk' : k < prs.length := by simpa using hk
                      rw [HPS.out, List.getElem_set]
                      by_cases he : bs = k
                      · rw [if_pos he, if_pos he]; exact D4
                      · rw [if_neg he, if_neg he]; exact D3 k hk'
                    exact ⟨⟨t + 1, by omega, HD, by go_num⟩, by simp only [intOf]; omega⟩
              · obtain rfl : t = M := by omega
                have hze : ((t : Int) - (t : Int)) = 0 := by omega
                rw [hze]
                clear hze
                go_wp2_with fail
                go_ret2
                have ho : out = apInc fs rs.length fl t := by rw [HOUT.out, ← HMM.out]
                refine ⟨bw, ?_, by omega, by rw [ho]; exact aW, hx⟩
                rw [ho, apInc_length, HFLL.out]
                rfl

end Go.Proofs.YtgihpfkjpfanmaaGreat

/- settlement.Apportion and ref40.Apportion give the same. -/
namespace Go.Proofs.YtgihpfkjpfanmaaGreat
open Go.RowKit

open Classical in
/-- The error that Apportion gives, or 0. -/
noncomputable def apE (qs : List Rat) : Int := if 128 < qs.length ∨ (∃ q ∈ qs, ¬ apOk q) then 8 else if qsum qs = (((qsum qs).floor : Int) : Rat) then 0 else 14

/-- What Apportion returns. -/
def ApRes (qs : List Rat) (w : World) (e : Ending) (w' : World) : Prop :=
  (apE qs = 0 ∧ ApGood (apOut qs) w e w') ∨ (¬ apE qs = 0 ∧ e = .returned (.tuple #[.slice none 0 0, .int .i64 (apE qs)]) ∧ Ext w w')

theorem first_bad (qs : List Rat) (h : ∃ q ∈ qs, ¬ apOk q) : ∃ j, ∃ hj : j < qs.length, ¬ apOk qs[j] ∧ ∀ i (hi : i < j), apOk (qs[i]'(by omega)) := by
  induction qs with
  | nil => obtain ⟨q, hq, _⟩ := h; simp at hq
  | cons a l ih =>
    by_cases ha : apOk a
    · obtain ⟨q, hq, hb⟩ := h
      rcases List.mem_cons.1 hq with rfl | hq
      · exact absurd ha hb
      · obtain ⟨j, hj, h1, h2⟩ := ih ⟨q, hq, hb⟩
        refine ⟨j + 1, by simpa using hj, h1, ?_⟩
        intro i hi
        cases i with
        | zero => exact ha
        | succ i => exact h2 i (by omega)
    · exact ⟨0, by simp, ha, fun i hi => absurd hi (Nat.not_lt_zero _)⟩

/-- The facts that both proofs want of numbers that are not too great. -/
structure ApNums (qs : List Rat) : Prop where
  lo : -72057594037927936 ≤ (qsum qs).floor
  hi : (qsum qs).floor ≤ 72057594037927936
  m0 : isum (qs.map Rat.floor) ≤ (qsum qs).floor
  m1 : (qsum qs).floor ≤ isum (qs.map Rat.floor) + qs.length
theorem ap_nums (qs : List Rat) (hn : qs.length ≤ 128) (hall : ∀ q ∈ qs, apOk q) : ApNums qs := by
  have hb := sum_between qs qs.length (Nat.le_refl _)
  rw [List.take_of_length_le (by simp), List.take_length] at hb
  have hm0 : isum (qs.map Rat.floor) ≤ (qsum qs).floor := by rw [Rat.le_floor_iff]; exact hb.1
  have hm1 : (qsum qs).floor ≤ isum (qs.map Rat.floor) + qs.length := by
    have h1 : (((qsum qs).floor : Int) : Rat) ≤ ((isum (qs.map Rat.floor) + qs.length : Int) : Rat) := Rat.le_trans (Rat.floor_le _) hb.2
    exact Rat.intCast_le_intCast.1 h1
  have h2 := floor_sum_bound qs (fun i hi => apOk_floor (hall _ (List.getElem_mem hi))) qs.length hn
  rw [List.take_of_length_le (by simp)] at h2
  exact ⟨by omega, by omega, hm0, hm1⟩

theorem qsum_short (w : World) (a : Option Addr) (c L : Nat) (rs : List RVal) (qs : List Rat) (h : Rats w a c rs qs L) (hn : rs.length ≤ 128) (hL : L ≤ 1000) : rsz (qsum qs) < 1000000 := by
  have h5 := rsz_qsum qs (L + 1) (fun i hi => by have := (h.num i (by rw [← h.len]; exact hi)).rsz; omega) qs.length (Nat.le_refl _)
  rw [List.take_length, h.len] at h5
  have := Nat.mul_le_mul hn (show L + 1 + 1 ≤ 1002 by omega)
  omega

theorem ap_all (w : World) (a : Option Addr) (c L : Nat) (rs : List RVal) (qs : List Rat) (h : Rats w a c rs qs L) (hL : L ≤ 1000) :
    Calls Tryz.prog 33 #[.slice a rs.length c] w (ApRes qs w) := by
  have hle := h.le
  have hcap := h.cap
  have hsh := h.short
  have hql := h.len
  unfold ApRes apE
  by_cases h1 : 128 < rs.length
  · refine (ap_long w a rs.length c h1 hsh).mono ?_
    rintro e w' ⟨he, rfl⟩
    rw [if_pos (Or.inl (by omega))]
    exact Or.inr ⟨by decide, he, Ext.refl _⟩
  · by_cases h2 : ∃ q ∈ qs, ¬ apOk q
    · obtain ⟨j, hj, hb, hg⟩ := first_bad qs h2
      refine (ap_big w a c L rs qs h (by omega) (by omega) j (by omega) hg hb).mono ?_
      rintro e w' ⟨he, hx⟩
      rw [if_pos (Or.inr h2)]
      exact Or.inr ⟨by decide, he, hx⟩
    · have hall : ∀ q ∈ qs, apOk q := fun q hq => Classical.byContradiction (fun hc => h2 ⟨q, hq, hc⟩)
      have hN := ap_nums qs (by omega) hall
      have hz := qsum_short w a c L rs qs h (by omega) hL
      rw [if_neg (by rintro (h5 | h5); omega; exact h2 h5)]
      by_cases h3 : qsum qs = (((qsum qs).floor : Int) : Rat)
      · rw [if_pos h3]
        by_cases h4 : 0 < rs.length
        · exact (ap_main w a c L rs qs h (by omega) h4 (by omega) (fun i hi => hall _ (List.getElem_mem _)) h3).mono (fun e w' he => Or.inl ⟨rfl, he⟩)
        · have h5 : rs.length = 0 := by omega
          have h6 : qs = [] := List.eq_nil_of_length_eq_zero (by omega)
          rw [h5, h6]
          exact (ap_none w a c hcap).mono (fun e w' he => Or.inl ⟨rfl, he⟩)
      · rw [if_neg h3]
        refine (ap_unb w a c L rs qs h (by omega) (by omega) (fun i hi => hall _ (List.getElem_mem _)) hN.lo hN.hi h3 (by omega)).mono ?_
        rintro e w' ⟨he, hx⟩
        exact Or.inr ⟨by decide, he, hx⟩

theorem r40_all (w : World) (a : Option Addr) (c L : Nat) (rs : List RVal) (qs : List Rat) (h : Rats w a c rs qs L) (hL : L ≤ 1000) (hK : RShort rs 1000) :
    Calls Tryz.prog 34 #[.slice a rs.length c] w (ApRes qs w) := by
  have hle := h.le
  have hcap := h.cap
  have hsh := h.short
  have hql := h.len
  unfold ApRes apE
  by_cases h1 : 128 < rs.length
  · refine (r40_long w a rs.length c h1 hsh).mono ?_
    rintro e w' ⟨he, rfl⟩
    rw [if_pos (Or.inl (by omega))]
    exact Or.inr ⟨by decide, he, Ext.refl _⟩
  · by_cases h2 : ∃ q ∈ qs, ¬ apOk q
    · obtain ⟨j, hj, hb, hg⟩ := first_bad qs h2
      refine (r40_big w a c L rs qs h (by omega) hL hK j (by omega) hg hb).mono ?_
      rintro e w' ⟨he, hx⟩
      rw [if_pos (Or.inr h2)]
      exact Or.inr ⟨by decide, he, hx⟩
    · have hall : ∀ q ∈ qs, apOk q := fun q hq => Classical.byContradiction (fun hc => h2 ⟨q, hq, hc⟩)
      have hN := ap_nums qs (by omega) hall
      have hz := qsum_short w a c L rs qs h (by omega) hL
      rw [if_neg (by rintro (h5 | h5); omega; exact h2 h5)]
      by_cases h3 : qsum qs = (((qsum qs).floor : Int) : Rat)
      · rw [if_pos h3]
        have h5 := r40_main w a c L rs qs h (by omega) hL hK (fun i hi => hall _ (List.getElem_mem _)) hN.lo hN.hi hz h3 hN.m0 (by have := hN.m1; omega)
        refine h5.mono (fun e w' he => Or.inl ⟨rfl, ?_⟩)
        unfold apOut
        rw [hql]
        exact he
      · rw [if_neg h3]
        refine (r40_unb w a c L rs qs h (by omega) hL hK (fun i hi => hall _ (List.getElem_mem _)) hN.lo hN.hi hz h3).mono ?_
        rintro e w' ⟨he, hx⟩
        exact Or.inr ⟨by decide, he, hx⟩

end Go.Proofs.YtgihpfkjpfanmaaGreat
