/- Texts of the proof: Ap3, Ap4, Sh1, Sh2, Ev1, Ev2, Ev3, Ev4, Ev5, Ev6, Ev7, Ev8, Ev9, Ev10, Row. -/
import Derived.Test.YtgihpfkjpfanmaaGreatUEa7
import Derived.Test.YtgihpfkjpfanmaaGreatRows
import Derived.WalkKit
import Derived.ProofKit
import Derived.OpenShut
import Derived.ShutString
import Derived.ChangeOld
import Derived.Below
/- settlement.Apportion. -/
namespace Go.Proofs.YtgihpfkjpfanmaaGreat
open Go.RowKit

/-- The greatest amount. -/
def apMost : Rat := ((281474976710656 : Int) : Rat)
def apOk (q : Rat) : Prop := q ≤ apMost ∧ -q ≤ apMost

theorem cmpQ_pos_false {p q : Rat} (h : p ≤ q) : decide ((0 : Int) < cmpQ p q) = false := by
  rw [decide_eq_false_iff_not, cmpQ_gt]; exact Rat.not_lt.2 h
theorem cmpQ_pos_true {p q : Rat} (h : ¬ p ≤ q) : decide ((0 : Int) < cmpQ p q) = true := by
  rw [decide_eq_true_iff, cmpQ_gt]; exact Rat.not_le.1 h

def isum (l : List Int) : Int := l.sum

theorem apOk_floor {q : Rat} (h : apOk q) : -281474976710656 ≤ q.floor ∧ q.floor ≤ 281474976710656 := by
  obtain ⟨h1, h2⟩ := h
  unfold apMost at h1 h2
  constructor
  · rw [Rat.le_floor_iff]
    grind
  · have h3 := Rat.floor_le q
    have h4 : ((q.floor : Int) : Rat) ≤ ((281474976710656 : Int) : Rat) := by grind
    exact Rat.intCast_le_intCast.1 h4

theorem isum_bound (l : List Int) (M : Int) (h : ∀ x ∈ l, -M ≤ x ∧ x ≤ M) : -((l.length : Int) * M) ≤ isum l ∧ isum l ≤ (l.length : Int) * M := by
  unfold isum
  induction l with
  | nil => simp
  | cons x l ih =>
    have h1 := h x (List.mem_cons_self ..)
    have h2 := ih (fun y hy => h y (List.mem_cons_of_mem _ hy))
    simp only [List.sum_cons, List.length_cons, Int.natCast_add, Int.add_mul]
    omega

/-- The cells of the element that is filled next. -/
theorem zero_at {w : World} {b m x : Nat} {T : TypeId} {A : List Value} (h : Arr w b T (A ++ zeros3 (m + 1))) (hA : A.length = x * 3) :
    w.cell? ⟨b, x * 3, none⟩ = some (.bool false) ∧ w.cell? ⟨b, x * 3 + 1, none⟩ = some (.slice none 0 0) ∧ w.cell? ⟨b, x * 3 + 2, none⟩ = some (.slice none 0 0) ∧ w.frozen? ⟨b, x * 3, none⟩ = false ∧ w.frozen? ⟨b, x * 3 + 1, none⟩ = false ∧ w.frozen? ⟨b, x * 3 + 2, none⟩ = false := by
  have e : zeros3 (m + 1) = .bool false :: .slice none 0 0 :: .slice none 0 0 :: zeros3 m := rfl
  rw [e] at h
  refine ⟨?_, ?_, ?_, h.frozen _, h.frozen _, h.frozen _⟩
  · rw [h.cell, List.getElem?_append_right (by omega), hA, Nat.sub_self]; rfl
  · rw [h.cell, List.getElem?_append_right (by omega), hA, Nat.add_sub_cancel_left]; rfl
  · rw [h.cell, List.getElem?_append_right (by omega), hA, Nat.add_sub_cancel_left]; rfl

/-- The fractional parts. -/
def fracs (qs : List Rat) : List Rat := qs.map fun q => q - ((q.floor : Int) : Rat)

/-- The numbers, the first t places in order raised by 1. -/
def apInc (fs : List Rat) (n : Nat) (l : List Int) : Nat → List Int
  | 0 => l
  | t + 1 => (apInc fs n l t).set (apAt fs n t) ((apInc fs n l t)[apAt fs n t]?.getD 0 + 1)
theorem apInc_length (fs : List Rat) (n : Nat) (l : List Int) (t : Nat) : (apInc fs n l t).length = l.length := by
  induction t with
  | zero => rfl
  | succ t ih => unfold apInc; rw [List.length_set]; exact ih
theorem apAt_lt (fs : List Rat) (n j : Nat) (h : j < n) : apAt fs n j < n := by
  unfold apAt
  have hl : j < (apOrder fs n).length := by simpa [apOrder] using h
  rw [List.getElem?_eq_getElem hl]
  exact ((apOrder fs n)[j]).2
theorem apInc_bound (fs : List Rat) (n : Nat) (l : List Int) (t p : Nat) (h : ∀ x ∈ l, -281474976710656 ≤ x ∧ x ≤ 281474976710656) : -281474976710656 ≤ (apInc fs n l t)[p]?.getD 0 ∧ (apInc fs n l t)[p]?.getD 0 ≤ 281474976710656 + t := by
  induction t generalizing p with
  | zero =>
    unfold apInc
    by_cases hp : p < l.length
    · rw [List.getElem?_eq_getElem hp]
      have := h _ (List.getElem_mem hp)
      simp only [Option.getD_some]; omega
    · rw [List.getElem?_eq_none (by omega)]; simp
  | succ t ih =>
    unfold apInc
    rw [List.getElem?_set]
    split
    · split
      · have := ih (apAt fs n t); simp only [Option.getD_some]; omega
      · simp; omega
    · have := ih p; omega

/-- The state at the head of the second loop. -/
def ApAt (w : World) (qs : List Rat) (n bw bg pb bo BB : Nat) (F : Int) (i : Nat) (wr : World) : Prop :=
  ∃ prs : List RVal, prs.length = i ∧ i ≤ n ∧ Arr wr bw 3 (i64s ((qs.map Rat.floor).take i ++ List.replicate (n - i) 0)) ∧ Arr wr bg 55 (ratCells prs ++ zeros3 (n - i)) ∧ Arr wr pb 48 [.slice (some ⟨bg, 0, none⟩) n n] ∧
    Arr wr bo 3 (i64s ((List.range i).map (fun k : Nat => (k : Int)) ++ List.replicate (n - i) 0)) ∧ (∀ k (hk : k < prs.length), IsCan wr prs[k] (qs[k]?.getD 0 - (((qs[k]?.getD 0).floor : Int) : Rat)) BB) ∧ Ext w wr ∧ BB ≤ wr.heap.size

/-- A call returns a new list of integers and OK. -/
def ApGood (l : List Int) (w : World) (e : Ending) (w' : World) : Prop := ∃ b, e = .returned (.tuple #[.slice (some ⟨b, 0, none⟩) l.length l.length, .int .i64 0]) ∧ w.heap.size ≤ b ∧ Arr w' b 3 (i64s l) ∧ Ext w w'

theorem ap_long (w : World) (a : Option Addr) (k c : Nat) (hk : 128 < k) (hs : k ≤ 1099511627776) :
    Calls Tryz.prog 33 #[.slice a k c] w fun e w' => e = .returned (.tuple #[.slice none 0 0, .int .i64 8]) ∧ w = w' := by
  go_enter Tryz.func33, Tryz.ntmps33
  go_wp2_with fail
  go_ret2
  exact ⟨rfl, rfl⟩

set_option maxHeartbeats 4000000 in
set_option maxRecDepth 100000 in
theorem ap_good (w : World) (a : Option Addr) (c L : Nat) (rs : List RVal) (qs : List Rat) (h : Rats w a c rs qs L) (hn : rs.length ≤ 128) (hL : L < 100000) (hall : ∀ i (hi : i < rs.length), apOk (qs[i]'(by rw [h.len]; exact hi)))
    (hF1 : -72057594037927936 ≤ (qsum qs).floor) (hF2 : (qsum qs).floor ≤ 72057594037927936) (hint : qsum qs = (((qsum qs).floor : Int) : Rat)) (h0n : 0 < rs.length) (hm0 : isum (qs.map Rat.floor) ≤ (qsum qs).floor) (hm1 : (qsum qs).floor ≤ isum (qs.map Rat.floor) + rs.length) (hszS : rsz (qsum qs) < 100000000) :
    Calls Tryz.prog 33 #[.slice a rs.length c] w (ApGood (apInc (fracs qs) rs.length (qs.map Rat.floor) ((qsum qs).floor - isum (qs.map Rat.floor)).toNat) w) := by
  obtain ⟨out, hout⟩ : ∃ out, out = apInc (fracs qs) rs.length (qs.map Rat.floor) ((qsum qs).floor - isum (qs.map Rat.floor)).toNat := ⟨_, rfl⟩
  rw [← hout]
  have HOUT := Lib.hid hout
  clear hout
  have hle := h.le
  have hSb : rs.length * (L + 2) + L + 1 < 100000000 := by
    have := Nat.mul_le_mul hn (show L + 2 ≤ 100002 by omega)
    omega
  have hcap := h.cap
  have hsh := h.short
  go_enter Tryz.func33, Tryz.ntmps33
  go_wp2_with fail
  refine (rat_FromInt _ _ (by decide) (by decide)).mono ?_
  intro e w1 hN
  obtain ⟨r1, rfl, hr1, hx1⟩ := hN.isCan
  have lim := hr1.isRat
  clear hN
  go_upto_region 4 with fail
  obtain ⟨W, hW, x0, Z0, A0⟩ := boxes1 w1 55 [.bool r1.s, .slice r1.a r1.k r1.c, .slice r1.b r1.j r1.d]
  rw [← hW]
  clear hW
  have xW : Ext w W := hx1.trans x0
  have limW : IsRat W r1 apMost 2 := (lim.ext x0).mono (by show rsz (((281474976710656 : Int) : Rat)) ≤ 2; rw [rsz_int]; decide)
  have hW := h.ext xW
  clear lim hr1
  go_wp2_with fail
  go_loopw [23] (fun ii wr => ∃ j : Nat, j ≤ rs.length ∧ Ext W wr ∧ ii = .int .i64 j) (fun ii _ => rs.length - (intOf ii).toNat)
  case atStart => exact ⟨0, Nat.zero_le _, Ext.refl _, rfl⟩
  case round =>
    obtain ⟨j, hj, hE, rfl⟩ := hrel
    by_cases hlt : j < rs.length
    · have hq := hW.ext hE
      obtain ⟨b, o, rfl⟩ := h.at (by omega)
      obtain ⟨b', o', e', c0, c1, c2⟩ := hq.cell j hlt
      cases e'
      obtain ⟨n2, m2', g1, g2, gq, gl1, gl2⟩ := hq.num j hlt
      obtain ⟨n1, m1', f1, f2, fq, fl1, fl2⟩ := limW.ext hE
      have hC1 := fun V (hV : Ext wr V) => rat_Compare V rs[j].s _ _ _ _ _ _ _ _ (g1.ext hV) (g2.ext hV) r1.s _ _ _ _ _ _ _ _ (f1.ext hV) (f2.ext hV) (by omega) (by omega) (by omega) (by omega)
      have hNg := fun V (hV : Ext wr V) => (rat_Neg V rs[j].s _ _ _ _ _ _ _ _ (g1.ext hV) (g2.ext hV) (by omega) (by omega)).mono (fun _ _ hh => hh.ratOf)
      have hrz : rsz (-(qs[j]'(by rw [h.len]; exact hlt))) < 100000000 := by
        rw [rsz_neg]
        have := (hq.num j hlt).rsz
        omega
      have hC2 : ∀ V a1 c1 b1 d1, Ext wr V → Raw V a1 (len (-(mkRat (sgn rs[j].s n2) m2')).num.natAbs) c1 (-(mkRat (sgn rs[j].s n2) m2')).num.natAbs → Raw V b1 (len (-(mkRat (sgn rs[j].s n2) m2')).den) d1 (-(mkRat (sgn rs[j].s n2) m2')).den → Calls Tryz.prog 68 #[.agg #[.bool (decide ((-(mkRat (sgn rs[j].s n2) m2')).num < 0)), .slice a1 (len (-(mkRat (sgn rs[j].s n2) m2')).num.natAbs) c1, .slice b1 (len (-(mkRat (sgn rs[j].s n2) m2')).den) d1], .agg #[.bool r1.s, .slice r1.a r1.k r1.c, .slice r1.b r1.j r1.d]] V fun e w' => e = .returned (.int .i64 (cmpQ (-(mkRat (sgn rs[j].s n2) m2')) (mkRat (sgn r1.s n1) m1'))) ∧ Ext V w' := by
        intro V a1 c1 b1 d1 hV hR hR'
        rw [← gq] at *
        have l1 := rsz_num (-(qs[j]'(by rw [h.len]; exact hlt)))
        have l2 := rsz_den (-(qs[j]'(by rw [h.len]; exact hlt)))
        have := rat_Compare V (decide ((-(qs[j]'(by rw [h.len]; exact hlt))).num < 0)) a1 b1 _ c1 _ d1 _ _ hR hR' r1.s _ _ _ _ _ _ _ _ (f1.ext hV) (f2.ext hV) (by omega) (by omega) (by omega) (by omega)
        rw [sgn_num, Rat.mkRat_self] at this
        exact this
      rw [← fq] at hC1 hC2
      rw [← gq] at hC1 hNg hC2
      have hok := hall j hlt
      have z1 := cmpQ_pos_false hok.1
      have z2 := cmpQ_pos_false hok.2
      generalize cmpQ (qs[j]'(by rw [h.len]; exact hlt)) apMost = t1 at hC1 z1
      generalize cmpQ (-(qs[j]'(by rw [h.len]; exact hlt))) apMost = t2 at hC2 z2
      generalize decide ((-(qs[j]'(by rw [h.len]; exact hlt))).num < 0) = sN at hNg hC2
      generalize (-(qs[j]'(by rw [h.len]; exact hlt))).num.natAbs = nN at hNg hC2
      generalize (-(qs[j]'(by rw [h.len]; exact hlt))).den = dN at hNg hC2
      generalize rs[j] = y at *
      clear gq fq hok hq
      have HC1 := Lib.hid hC1; have HNg := Lib.hid hNg; have HC2 := Lib.hid hC2
      clear hC1 hNg hC2
      go_upto_region 7 with fail
      obtain ⟨V, hV, xv, Zv, Av⟩ := boxes1 wr 55 [.bool y.s, .slice y.a y.k y.c, .slice y.b y.j y.d]
      rw [← hV]
      clear hV
      obtain ⟨m0, m1, m2, -, -, -⟩ := box3 Av (Ext.refl _)
      obtain ⟨k0, k1, k2, -, -, -⟩ := box3 A0 (hE.trans xv)
      clear c0 c1 c2
      have HC1 := Lib.hid (fun U (hU : Ext V U) => HC1.out U (xv.trans hU)); have HNg := Lib.hid (fun U (hU : Ext V U) => HNg.out U (xv.trans hU)); have HC2 := Lib.hid (fun U a c b d (hU : Ext V U) => HC2.out U a c b d (xv.trans hU))
      have tk1 : True := trivial
      go_region_held3 (fun w' => w'.cell? ⟨w1.heap.size, 0, none⟩ = some (.bool r1.s) ∧ w'.cell? ⟨w1.heap.size, 1, none⟩ = some (.slice r1.a r1.k r1.c) ∧ w'.cell? ⟨w1.heap.size, 2, none⟩ = some (.slice r1.b r1.j r1.d) ∧ w'.cell? ⟨wr.heap.size, 0, none⟩ = some (.bool y.s) ∧ w'.cell? ⟨wr.heap.size, 1, none⟩ = some (.slice y.a y.k y.c) ∧ w'.cell? ⟨wr.heap.size, 2, none⟩ = some (.slice y.b y.j y.d)) (first | exact ⟨k0, k1, k2, m0, m1, m2⟩) (first
        | (go_at_call 68; have _t := tk1; refine (HC1.out _ (by exact (Ext.refl _).drew)).mono ?_; rintro e w3 ⟨rfl, x3⟩; clear tk1 _t; have y3 : Ext V w3 := (Ext.refl _).drew.trans x3; have k0 := cell_ext ((Ext.refl _).drew.trans x3) k0; have k1 := cell_ext ((Ext.refl _).drew.trans x3) k1; have k2 := cell_ext ((Ext.refl _).drew.trans x3) k2; have m0 := cell_ext ((Ext.refl _).drew.trans x3) m0; have m1 := cell_ext ((Ext.refl _).drew.trans x3) m1; have m2 := cell_ext ((Ext.refl _).drew.trans x3) m2)
        | (go_at_call 81; refine (HNg.out _ (by exact y3)).mono ?_; rintro e w4 ⟨a4, c4, b4, d4, rfl, r4, f4, q4, g4, x4⟩; have y4 : Ext V w4 := y3.trans x4; have k0 := cell_ext x4 k0; have k1 := cell_ext x4 k1; have k2 := cell_ext x4 k2; have m0 := cell_ext x4 m0; have m1 := cell_ext x4 m1; have m2 := cell_ext x4 m2)
        | (go_at_call 68; refine (HC2.out _ _ _ _ _ (by exact y4) r4 q4).mono ?_; rintro e w5 ⟨rfl, x5⟩; have y5 : Ext V w5 := y4.trans x5; have k0 := cell_ext x5 k0; have k1 := cell_ext x5 k1; have k2 := cell_ext x5 k2; have m0 := cell_ext x5 m0; have m1 := cell_ext x5 m1; have m2 := cell_ext x5 m2))
      go_wp2_with fail
      go_roundw
      case rel => exact ⟨j + 1, by omega, (hE.trans xv).trans y5, by go_num⟩
      case measure => simp [intOf] <;> omega
    · obtain rfl : j = rs.length := by omega
      go_wp2_with fail
      refine (rat_Sum _ _ _ _ _ _ (hW.ext hE) hSb).mono ?_
      intro e w2 hN
      obtain ⟨r2, rfl, hr2, hx2⟩ := hN.isCan
      clear hN
      have hS2 := hr2.isRat
      have f2 := hr2.fa
      have f2' := hr2.fb
      clear hr2
      obtain ⟨n5, m5, g1, g2, gq, gl1, gl2⟩ := hS2
      have hFl := fun V (hV : Ext w2 V) => (rat_Floor V r2.s _ _ _ _ _ _ _ _ (g1.ext hV) (g2.ext hV) (by omega) (by omega)).mono (fun _ _ hh => hh.intOf)
      have hFr := fun V => (rat_FromInt V (qsum qs).floor (by omega) (by omega)).mono (fun _ _ hh => hh.ratOf)
      have hVal : ∀ V a c, Raw V a (len (qsum qs).floor.natAbs) c (qsum qs).floor.natAbs → Calls Tryz.prog 83 #[.agg #[.bool (decide ((qsum qs).floor < 0)), .slice a (len (qsum qs).floor.natAbs) c]] V fun e w' => e = .returned (.tuple #[.int .i64 (qsum qs).floor, .bool true]) ∧ Ext V w' := by
        intro V a c hR
        have := int_Value V (decide ((qsum qs).floor < 0)) a _ c _ hR (by rw [sgn_num]; omega) (by rw [sgn_num]; omega)
        rw [sgn_num] at this
        exact this
      have hCm : ∀ V a1 c1 b1 d1, Ext w2 V → Raw V a1 (len (((qsum qs).floor : Int) : Rat).num.natAbs) c1 (((qsum qs).floor : Int) : Rat).num.natAbs → Raw V b1 (len (((qsum qs).floor : Int) : Rat).den) d1 (((qsum qs).floor : Int) : Rat).den → Calls Tryz.prog 68 #[.agg #[.bool r2.s, .slice r2.a r2.k r2.c, .slice r2.b r2.j r2.d], .agg #[.bool (decide ((((qsum qs).floor : Int) : Rat).num < 0)), .slice a1 (len (((qsum qs).floor : Int) : Rat).num.natAbs) c1, .slice b1 (len (((qsum qs).floor : Int) : Rat).den) d1]] V fun e w' => e = .returned (.int .i64 (cmpQ (mkRat (sgn r2.s n5) m5) (((qsum qs).floor : Int) : Rat))) ∧ Ext V w' := by
        intro V a1 c1 b1 d1 hV hR hR'
        have l1 := rsz_num (((qsum qs).floor : Int) : Rat)
        have l2 := rsz_den (((qsum qs).floor : Int) : Rat)
        have l3 := rsz_int (qsum qs).floor
        have l4 := len_natAbs_i64 (z := (qsum qs).floor) (by omega) (by omega)
        have := rat_Compare V r2.s _ _ _ _ _ _ _ _ (g1.ext hV) (g2.ext hV) (decide ((((qsum qs).floor : Int) : Rat).num < 0)) a1 b1 _ c1 _ d1 _ _ hR hR' (by omega) (by omega) (by omega) (by omega)
        rw [sgn_num, Rat.mkRat_self] at this
        exact this
      rw [← gq] at hFl hCm
      have hcz : ((cmpQ (qsum qs) (((qsum qs).floor : Int) : Rat)) != 0) = false := by rw [bne_eq_false_iff_eq]; exact cmpQ_eq.2 hint
      generalize cmpQ (qsum qs) (((qsum qs).floor : Int) : Rat) = zc at hCm hcz
      generalize decide ((((qsum qs).floor : Int) : Rat).num < 0) = sM at hFr hCm
      generalize (((qsum qs).floor : Int) : Rat).num.natAbs = nM at hFr hCm
      generalize (((qsum qs).floor : Int) : Rat).den = dM at hFr hCm
      generalize decide ((qsum qs).floor < 0) = sF at hFl hVal
      generalize (qsum qs).floor.natAbs = nF at hFl hVal
      obtain ⟨F, hF⟩ : ∃ F, F = (qsum qs).floor := ⟨_, rfl⟩
      rw [← hF] at hFr hVal hF1 hF2
      have HFl := Lib.hid hFl; have HFr := Lib.hid hFr; have HVal := Lib.hid hVal; have HCm := Lib.hid hCm; have HF := Lib.hid hF
      clear hFl hFr hVal hCm gq hF
      go_upto_region 11 with fail
      obtain ⟨W3, hW3, x3, Z3, A3⟩ := boxes1 w2 55 [.bool r2.s, .slice r2.a r2.k r2.c, .slice r2.b r2.j r2.d]
      rw [← hW3]
      clear hW3
      obtain ⟨k0, k1, k2, -, -, -⟩ := box3 A3 (Ext.refl _)
      go_wp2_with fail
      refine (HFl.out _ x3).mono ?_
      rintro e w4 ⟨a4, c4, rfl, r4, f4, x4⟩
      go_wp2_with fail
      refine (HVal.out _ _ _ r4).mono ?_
      rintro e w5 ⟨rfl, x5⟩
      clear k0 k1 k2
      have y5 : Ext W3 w5 := x4.trans x5
      obtain ⟨k0, k1, k2, -, -, -⟩ := box3 A3 y5
      go_wp2_with fail
      go_region_held3 (fun w' => w'.cell? ⟨w2.heap.size, 0, none⟩ = some (.bool r2.s) ∧ w'.cell? ⟨w2.heap.size, 1, none⟩ = some (.slice r2.a r2.k r2.c) ∧ w'.cell? ⟨w2.heap.size, 2, none⟩ = some (.slice r2.b r2.j r2.d)) (first | exact ⟨k0, k1, k2⟩) (first
        | (go_at_call 80; refine (HFr.out _).mono ?_; rintro e w6 ⟨a6, c6, b6, d6, rfl, r6, f6, q6, g6, x6⟩; have y6 : Ext W3 w6 := (y5.drew).trans x6; have k0 := cell_ext ((Ext.refl _).drew.trans x6) k0; have k1 := cell_ext ((Ext.refl _).drew.trans x6) k1; have k2 := cell_ext ((Ext.refl _).drew.trans x6) k2)
        | (go_at_call 68; refine (HCm.out _ _ _ _ _ (by exact x3.trans y6) r6 q6).mono ?_; rintro e w7 ⟨rfl, x7⟩; have y7 : Ext W3 w7 := y6.trans x7; have k0 := cell_ext x7 k0; have k1 := cell_ext x7 k1; have k2 := cell_ext x7 k2))
      have xE : Ext w w7 := ((xW.trans hE).trans hx2).trans (x3.trans y7)
      clear k0 k1 k2 HFl HFr HVal HCm
      go_upto_region 15 with (at_make; refine wpList_make_one _ rfl _ _ 22 rfl 3 (.int .i64 0) 8 Tryz.underlying22 Tryz.info_int rfl _ _ rs.length rfl rfl (by go_num) (by go_num) (by omega) (by omega) ?_; intro w8 hw8 hx8 hz8)
      go_upto_region 16 with (at_make; refine wpList_make_three _ rfl _ _ 48 rfl 55 (.agg zero3.toArray) 56 Tryz.underlying48 Tryz.info_rat rfl _ _ rs.length rfl rfl (by go_num) (by go_num) (by omega) (by omega) ?_; intro w9 hw9 hx9 hz9)
      obtain ⟨Wp, hWp, xp, Zp, Ap⟩ := boxes1 w9 48 [.slice (some ⟨w8.heap.size, 0, none⟩) rs.length rs.length]
      rw [← hWp]
      clear hWp
      go_upto_region 17 with (at_make; refine wpList_make_one _ rfl _ _ 22 rfl 3 (.int .i64 0) 8 Tryz.underlying22 Tryz.info_int rfl _ _ rs.length rfl rfl (by go_num) (by go_num) (by omega) (by omega) ?_; intro w10 hw10 hx10 hz10)
      have xE10 : Ext w w10 := (((xE.trans hx8).trans hx9).trans xp).trans hx10
      have z8 := hz8.out
      have z9 := hz9.out
      have zp := Zp.out
      have z10 := hz10.out
      have sw7 := xE.size
      obtain ⟨bw, hbw⟩ : ∃ bw, bw = w7.heap.size := ⟨_, rfl⟩
      obtain ⟨bg, hbg⟩ : ∃ bg, bg = w8.heap.size := ⟨_, rfl⟩
      obtain ⟨pb, hpb⟩ : ∃ pb, pb = w9.heap.size := ⟨_, rfl⟩
      obtain ⟨bo, hbo⟩ : ∃ bo, bo = Wp.heap.size := ⟨_, rfl⟩
      obtain ⟨BB, hBB⟩ : ∃ BB, BB = w10.heap.size := ⟨_, rfl⟩
      have o1 : w.heap.size ≤ bw := by omega
      have o2 : bw < bg := by omega
      have o3 : bg < pb := by omega
      have o4 : pb < bo := by omega
      have o5 : bo < BB := by omega
      have aW : Arr w10 bw 3 (i64s (([] : List Int) ++ List.replicate rs.length 0)) := by
        have h5 := hw8.out
        rw [i64s_zeros, ← hbw] at h5
        exact ((h5.ext hx9).ext xp).ext hx10
      have aG : Arr w10 bg 55 (ratCells [] ++ zeros3 rs.length) := by
        have h5 := hw9.out
        rw [← hbg] at h5
        exact (h5.ext xp).ext hx10
      have aP : Arr w10 pb 48 [.slice (some ⟨bg, 0, none⟩) rs.length rs.length] := by
        rw [hpb, hbg]; exact Ap.ext hx10
      have aO : Arr w10 bo 3 (i64s (([] : List Int) ++ List.replicate rs.length 0)) := by
        have h5 := hw10.out
        rw [i64s_zeros, ← hbo] at h5
        exact h5
      rw [← hbw, ← hbg, ← hpb, ← hbo]
      have HBB := Lib.hid hBB
      clear hw8 hw9 hw10 Ap hz8 hz9 Zp hz10 z8 z9 zp z10 sw7 hx8 hx9 xp hx10 hbw hbg hpb hbo hBB hE hx2 x3 y7 y6 y5 x7 x6 r6 q6 f6 g6 r4 f4 x4 x5 A3 hW limW A0 x0 xW f2 f2' g1 g2
      have SI : Hid (ApAt w qs rs.length bw bg pb bo BB F 0 w10) := ⟨[], rfl, Nat.zero_le _, aW, aG, aP, aO, fun k hk => absurd hk (by simp), xE10, by rw [HBB.out]; exact Nat.le_refl _⟩
      go_wp2_with fail
      go_loopw [8, 63] (fun s8 ii wr => ∃ i : Nat, ApAt w qs rs.length bw bg pb bo BB F i wr ∧ s8 = .int .i64 (F - isum ((qs.map Rat.floor).take i)) ∧ ii = .int .i64 i) (fun _ ii _ => rs.length - (intOf ii).toNat)
      case atStart => exact ⟨0, SI.out, by show _ = Value.int .i64 (F - 0); rw [Int.sub_zero], rfl⟩
      case round =>
        obtain ⟨i, hAt, rfl, rfl⟩ := hrel
        obtain ⟨prs, hpl, hi, aW, aG, aP, aO, hcan, hxw, hBw⟩ := hAt
        by_cases hlt : i < rs.length
        · have hil : i < qs.length := by rw [h.len]; exact hlt
          obtain ⟨b, o, rfl⟩ := h.at (by omega)
          obtain ⟨b', o', e', c0, c1, c2⟩ := (h.ext hxw).cell i hlt
          cases e'
          obtain ⟨n2, m2', g1, g2, gq, gl1, gl2⟩ := h.num i hlt
          have hqi : qs[i]?.getD 0 = qs[i]'hil := by rw [List.getElem?_eq_getElem hil]; rfl
          have hok := hall i hlt
          obtain ⟨fl1, fl2⟩ := apOk_floor hok
          have hFl := fun V (hV : Ext w V) => (rat_Floor V rs[i].s _ _ _ _ _ _ _ _ (g1.ext hV) (g2.ext hV) (by omega) (by omega)).mono (fun _ _ hh => hh.intOf)
          rw [← gq] at hFl
          have hrz : rsz (qs[i]'hil) < 100000000 := by have := (h.num i hlt).rsz; omega
          have hFr := fun V => (rat_FromInt V (qs[i]'hil).floor (by omega) (by omega)).mono (fun _ _ hh => hh.ratOf)
          have hVal : ∀ V a c, Raw V a (len (qs[i]'hil).floor.natAbs) c (qs[i]'hil).floor.natAbs → Calls Tryz.prog 83 #[.agg #[.bool (decide ((qs[i]'hil).floor < 0)), .slice a (len (qs[i]'hil).floor.natAbs) c]] V fun e w' => e = .returned (.tuple #[.int .i64 (qs[i]'hil).floor, .bool true]) ∧ Ext V w' := by
            intro V a c hR
            have := int_Value V (decide ((qs[i]'hil).floor < 0)) a _ c _ hR (by rw [sgn_num]; omega) (by rw [sgn_num]; omega)
            rw [sgn_num] at this
            exact this
          have hSub : ∀ V a1 c1 b1 d1, Ext w V → Raw V a1 (len (((qs[i]'hil).floor : Int) : Rat).num.natAbs) c1 (((qs[i]'hil).floor : Int) : Rat).num.natAbs → Raw V b1 (len (((qs[i]'hil).floor : Int) : Rat).den) d1 (((qs[i]'hil).floor : Int) : Rat).den → Calls Tryz.prog 85 #[.agg #[.bool rs[i].s, .slice rs[i].a rs[i].k rs[i].c, .slice rs[i].b rs[i].j rs[i].d], .agg #[.bool (decide ((((qs[i]'hil).floor : Int) : Rat).num < 0)), .slice a1 (len (((qs[i]'hil).floor : Int) : Rat).num.natAbs) c1, .slice b1 (len (((qs[i]'hil).floor : Int) : Rat).den) d1]] V (NewRat (qs[i]?.getD 0 - (((qs[i]?.getD 0).floor : Int) : Rat)) V) := by
            intro V a1 c1 b1 d1 hV hR hR'
            have l1 := rsz_num (((qs[i]'hil).floor : Int) : Rat)
            have l2 := rsz_den (((qs[i]'hil).floor : Int) : Rat)
            have l3 := rsz_int (qs[i]'hil).floor
            have l4 := len_natAbs_i64 (z := (qs[i]'hil).floor) (by omega) (by omega)
            have := rat_Sub V rs[i].s _ _ _ _ _ _ _ _ (g1.ext hV) (g2.ext hV) (decide ((((qs[i]'hil).floor : Int) : Rat).num < 0)) a1 b1 _ c1 _ d1 _ _ hR hR' (by omega) (by omega) (by omega) (by omega)
            rw [sgn_num, Rat.mkRat_self, ← gq] at this
            rw [hqi]
            exact this
          have hfs : (qs.map Rat.floor)[i]'(by simpa using hil) = (qs[i]'hil).floor := by simp
          have htk : (qs.map Rat.floor).take (i + 1) = (qs.map Rat.floor).take i ++ [(qs[i]'hil).floor] := by
            rw [List.take_succ_eq_append_getElem (by simpa using hil), hfs]
          have hisum : isum ((qs.map Rat.floor).take (i + 1)) = isum ((qs.map Rat.floor).take i) + (qs[i]'hil).floor := by
            rw [htk]; unfold isum; simp
          have hib := isum_bound ((qs.map Rat.floor).take i) 281474976710656 (by
            intro x hx
            obtain ⟨q, hq, rfl⟩ := List.mem_map.1 (List.mem_of_mem_take hx)
            obtain ⟨k, hk, rfl⟩ := List.getElem_of_mem hq
            exact apOk_floor (hall k (by rw [← h.len]; exact hk)))
          rw [List.length_take, List.length_map, Nat.min_eq_left (by omega)] at hib
          generalize decide ((((qs[i]'hil).floor : Int) : Rat).num < 0) = sM at hFr hSub
          generalize (((qs[i]'hil).floor : Int) : Rat).num.natAbs = nM at hFr hSub
          generalize (((qs[i]'hil).floor : Int) : Rat).den = dM at hFr hSub
          generalize decide ((qs[i]'hil).floor < 0) = sF at hFl hVal
          generalize (qs[i]'hil).floor.natAbs = nF at hFl hVal
          generalize (qs[i]'hil).floor = z at *
          have HFl := Lib.hid hFl; have HFr := Lib.hid hFr; have HVal := Lib.hid hVal; have HSub := Lib.hid hSub; have HTK := Lib.hid htk; have HIS := Lib.hid hisum
          clear hFl hFr hVal hSub htk hisum hfs gq g1 g2 hok hqi
          generalize rs[i] = y at *
          have b0 : (0 : Int) ≤ (i : Int) := by omega
          have b1 : (i : Int) < (rs.length : Int) := by omega
          go_upto_region 20 with fail
          obtain ⟨V0, hV0, xv, Zv, Av⟩ := boxes1 wr 55 [.bool y.s, .slice y.a y.k y.c, .slice y.b y.j y.d]
          rw [← hV0]
          clear hV0 c0 c1 c2
          obtain ⟨m0, m1, m2, -, -, -⟩ := box3 Av (Ext.refl _)
          go_wp2_with fail
          refine (HFl.out _ (hxw.trans xv)).mono ?_
          rintro e w11 ⟨a11, c11, rfl, r11, f11, x11⟩
          go_wp2_with fail
          refine (HVal.out _ _ _ r11).mono ?_
          rintro e w12 ⟨rfl, x12⟩
          clear m0 m1 m2 r11 f11
          have v12 : Ext wr w12 := (xv.trans x11).trans x12
          obtain ⟨m, hm⟩ : ∃ m, rs.length - i = m + 1 := ⟨rs.length - i - 1, by omega⟩
          have hm' : rs.length - (i + 1) = m := by omega
          rw [hm] at aW aG aO
          have eW : ((qs.map Rat.floor).take i).length = i := by rw [List.length_take, List.length_map]; omega
          have cW : w12.cell? ⟨bw, i, none⟩ = some (.int .i64 0) := by
            rw [(aW.ext v12).cell, i64s_get _ _ (by simp; omega)]
            congr 2
            rw [List.getElem_append_right (by omega)]; simp
          have fW := (aW.ext v12).frozen i
          have B1 : Arr (w12.setCell ⟨bw, i, none⟩ (.int .i64 z)) bw 3 (i64s ((qs.map Rat.floor).take (i + 1) ++ List.replicate m 0)) := by
            have h5 := (aW.ext v12).set i (.int .i64 z)
            have h6 := i64s_next ((qs.map Rat.floor).take i) m z
            rw [eW] at h6
            rw [h6, ← HTK.out] at h5
            exact h5
          have B2 := (aG.ext v12).other ⟨bw, i, none⟩ (.int .i64 z) (by simp only; omega)
          have B3 := (aP.ext v12).other ⟨bw, i, none⟩ (.int .i64 z) (by simp only; omega)
          have B4 := (aO.ext v12).other ⟨bw, i, none⟩ (.int .i64 z) (by simp only; omega)
          have B5 := (Av.ext (x11.trans x12)).other ⟨bw, i, none⟩ (.int .i64 z) (by simp only; omega)
          have B6 := fun k hk => ((hcan k hk).ext v12).setCell ⟨bw, i, none⟩ (.int .i64 z) (by simp only; omega)
          have B7 : Ext w (w12.setCell ⟨bw, i, none⟩ (.int .i64 z)) := (hxw.trans v12).setCell (by simp only; omega) _
          have B8 : BB ≤ (w12.setCell ⟨bw, i, none⟩ (.int .i64 z)).heap.size := by
            have := v12.size
            simp [World.setCell]; omega
          have s4 : (w12.setCell ⟨bw, i, none⟩ (.int .i64 z)).cell? ⟨bw, i, none⟩ = some (.int .i64 z) := by
            rw [B1.cell, i64s_get _ _ (by simp; omega)]
            congr 2
            rw [List.getElem_append_left (by simp; omega)]
            have h7 := HTK.out
            simp [h7, eW]
          go_upto_region 21 with fail
          clear cW fW aW aG aP aO hcan
          generalize w12.setCell ⟨bw, i, none⟩ (.int .i64 z) = V1 at *
          have s0 := B3.cell 0
          obtain ⟨s1, s2, s3, -, -, -⟩ := box3 B5 (Ext.refl _)
          simp at s0
          have hpc : (ratCells prs).length = i * 3 := by rw [ratCells_length, hpl]
          have HPC := Lib.hid hpc; clear hpc
          go_region_held3 (fun w' => w'.cell? ⟨pb, 0, none⟩ = some (.slice (some ⟨bg, 0, none⟩) rs.length rs.length) ∧ w'.cell? ⟨wr.heap.size, 0, none⟩ = some (.bool y.s) ∧ w'.cell? ⟨wr.heap.size, 1, none⟩ = some (.slice y.a y.k y.c) ∧ w'.cell? ⟨wr.heap.size, 2, none⟩ = some (.slice y.b y.j y.d) ∧ w'.cell? ⟨bw, i, none⟩ = some (.int .i64 z)) (first | exact ⟨s0, s1, s2, s3, s4⟩ | exact ⟨cell_three s0 (by simp only; omega), cell_three s1 (by simp only; omega), cell_three s2 (by simp only; omega), cell_three s3 (by simp only; omega), cell_three s4 (by simp only; omega)⟩) (first
            | (go_at_call 80; refine (HFr.out _).mono ?_; rintro e w13 ⟨a13, c13, b13, d13, rfl, r13, f13, q13, g13, x13⟩; have v13 : Ext V1 w13 := (Ext.refl _).drew.trans x13; have s0 := cell_ext ((Ext.refl _).drew.trans x13) s0; have s1 := cell_ext ((Ext.refl _).drew.trans x13) s1; have s2 := cell_ext ((Ext.refl _).drew.trans x13) s2; have s3 := cell_ext ((Ext.refl _).drew.trans x13) s3; have s4 := cell_ext ((Ext.refl _).drew.trans x13) s4)
            | (go_at_call 85; refine (HSub.out _ _ _ _ _ (by exact B7.trans v13) r13 q13).mono ?_; intro e w14 hN; obtain ⟨r14, rfl, hr14, x14⟩ := hN.isCan; clear hN; have v14 : Ext V1 w14 := v13.trans x14; have s0 := cell_ext x14 s0; have s1 := cell_ext x14 s1; have s2 := cell_ext x14 s2; have s3 := cell_ext x14 s3; have s4 := cell_ext x14 s4; obtain ⟨p0, p1, p2, p3, p4, p5⟩ := zero_at (B2.ext v14) HPC.out))
          go_upto_region 22 with fail
          have sz14 := v14.size
          have C1 := ((((B1.ext v14).other ⟨bg, i * 3, none⟩ (.bool r14.s) (by simp only; omega)).other ⟨bg, i * 3 + 1, none⟩ (.slice r14.a r14.k r14.c) (by simp only; omega)).other ⟨bg, i * 3 + 2, none⟩ (.slice r14.b r14.j r14.d) (by simp only; omega))
          have C2 : Arr (((w14.setCell ⟨bg, i * 3, none⟩ (.bool r14.s)).setCell ⟨bg, i * 3 + 1, none⟩ (.slice r14.a r14.k r14.c)).setCell ⟨bg, i * 3 + 2, none⟩ (.slice r14.b r14.j r14.d)) bg 55 (ratCells (prs ++ [r14]) ++ zeros3 m) := by
            have h5 := (((B2.ext v14).set (i * 3) (.bool r14.s)).set (i * 3 + 1) (.slice r14.a r14.k r14.c)).set (i * 3 + 2) (.slice r14.b r14.j r14.d)
            have h6 := fill3 (ratCells prs) m (.bool r14.s) (.slice r14.a r14.k r14.c) (.slice r14.b r14.j r14.d)
            rw [HPC.out] at h6
            rw [h6] at h5
            rw [ratCells_snoc]
            exact h5
          have C3 := ((((B3.ext v14).other ⟨bg, i * 3, none⟩ (.bool r14.s) (by simp only; omega)).other ⟨bg, i * 3 + 1, none⟩ (.slice r14.a r14.k r14.c) (by simp only; omega)).other ⟨bg, i * 3 + 2, none⟩ (.slice r14.b r14.j r14.d) (by simp only; omega))
          have C4 := ((((B4.ext v14).other ⟨bg, i * 3, none⟩ (.bool r14.s) (by simp only; omega)).other ⟨bg, i * 3 + 1, none⟩ (.slice r14.a r14.k r14.c) (by simp only; omega)).other ⟨bg, i * 3 + 2, none⟩ (.slice r14.b r14.j r14.d) (by simp only; omega))
          have C6 := fun k hk => ((((B6 k hk).ext v14).setCell ⟨bg, i * 3, none⟩ (.bool r14.s) (by simp only; omega)).setCell ⟨bg, i * 3 + 1, none⟩ (.slice r14.a r14.k r14.c) (by simp only; omega)).setCell ⟨bg, i * 3 + 2, none⟩ (.slice r14.b r14.j r14.d) (by simp only; omega)
          have C6' := (((hr14.mono (show BB ≤ w13.heap.size by have := v13.size; omega)).setCell ⟨bg, i * 3, none⟩ (.bool r14.s) (by simp only; omega)).setCell ⟨bg, i * 3 + 1, none⟩ (.slice r14.a r14.k r14.c) (by simp only; omega)).setCell ⟨bg, i * 3 + 2, none⟩ (.slice r14.b r14.j r14.d) (by simp only; omega)
          have C7 : Ext w (((w14.setCell ⟨bg, i * 3, none⟩ (.bool r14.s)).setCell ⟨bg, i * 3 + 1, none⟩ (.slice r14.a r14.k r14.c)).setCell ⟨bg, i * 3 + 2, none⟩ (.slice r14.b r14.j r14.d)) := ((((B7.trans v14).setCell (by simp only; omega) _).setCell (by simp only; omega) _).setCell (by simp only; omega) _)
          have C8 : BB ≤ (((w14.setCell ⟨bg, i * 3, none⟩ (.bool r14.s)).setCell ⟨bg, i * 3 + 1, none⟩ (.slice r14.a r14.k r14.c)).setCell ⟨bg, i * 3 + 2, none⟩ (.slice r14.b r14.j r14.d)).heap.size := by simp [World.setCell]; omega
          have C9 := cell_three (b := bg) (x := i * 3) (v0 := .bool r14.s) (v1 := .slice r14.a r14.k r14.c) (v2 := .slice r14.b r14.j r14.d) s4 (by simp only; omega)
          clear s0 s1 s2 s3 s4 p0 p1 p2 p3 p4 p5 B1 B2 B3 B4 B5 B6 hr14
          generalize ((w14.setCell ⟨bg, i * 3, none⟩ (.bool r14.s)).setCell ⟨bg, i * 3 + 1, none⟩ (.slice r14.a r14.k r14.c)).setCell ⟨bg, i * 3 + 2, none⟩ (.slice r14.b r14.j r14.d) = V2 at *
          have eO : ((List.range i).map (fun k : Nat => (k : Int))).length = i := by simp
          have cO : V2.cell? ⟨bo, i, none⟩ = some (.int .i64 0) := by
            rw [C4.cell, i64s_get _ _ (by simp)]
            congr 2
            rw [List.getElem_append_right (by simp)]; simp
          have fO := C4.frozen i
          have D4 : Arr (V2.setCell ⟨bo, i, none⟩ (.int .i64 (i : Nat))) bo 3 (i64s ((List.range (i + 1)).map (fun k : Nat => (k : Int)) ++ List.replicate m 0)) := by
            have h5 := C4.set i (.int .i64 (i : Nat))
            have h6 := i64s_next ((List.range i).map (fun k : Nat => (k : Int))) m (i : Int)
            rw [eO] at h6
            rw [h6] at h5
            rw [List.range_succ, List.map_append]
            exact h5
          have D1 := C1.other ⟨bo, i, none⟩ (.int .i64 (i : Nat)) (by simp only; omega)
          have D2 := C2.other ⟨bo, i, none⟩ (.int .i64 (i : Nat)) (by simp only; omega)
          have D3 := C3.other ⟨bo, i, none⟩ (.int .i64 (i : Nat)) (by simp only; omega)
          have D6 := fun k hk => (C6 k hk).setCell ⟨bo, i, none⟩ (.int .i64 (i : Nat)) (by simp only; omega)
          have D6' := C6'.setCell ⟨bo, i, none⟩ (.int .i64 (i : Nat)) (by simp only; omega)
          have D7 : Ext w (V2.setCell ⟨bo, i, none⟩ (.int .i64 (i : Nat))) := C7.setCell (by simp only; omega) _
          have D8 : BB ≤ (V2.setCell ⟨bo, i, none⟩ (.int .i64 (i : Nat))).heap.size := by simp [World.setCell]; exact C8
          have D9 : (V2.setCell ⟨bo, i, none⟩ (.int .i64 (i : Nat))).cell? ⟨bw, i, none⟩ = some (.int .i64 z) := by
            rw [World.cell?_setCell_other _ _ _ _ (by intro e; simp only [Addr.mk.injEq] at e; omega)]; exact C9
          have HD : Hid (ApAt w qs rs.length bw bg pb bo BB F (i + 1) (V2.setCell ⟨bo, i, none⟩ (.int .i64 (i : Nat)))) := by
            refine ⟨prs ++ [r14], by simp [hpl], by omega, by rw [hm']; exact D1, by rw [hm']; exact D2, D3, by rw [hm']; exact D4, ?_, D7, D8⟩
            intro k hk
            by_cases hki : k < prs.length
            · rw [List.getElem_append_left hki]; exact D6 k hki
            · have hk' : k = i := by simp at hk; omega
              subst hk'
              rw [List.getElem_append_right (by omega)]
              simp only [hpl, Nat.sub_self, List.getElem_cons_zero]
              exact D6'
          go_upto_region 23 with fail
          generalize V2.setCell ⟨bo, i, none⟩ (.int .i64 (i : Nat)) = V3 at *
          clear C1 C2 C3 C4 C6 C6' D1 D2 D3 D4 D6 D6'
          go_wp2_with fail
          refine ⟨⟨i + 1, HD.out, congrArg (Value.int .i64) ?_, by go_num⟩, by simp [intOf] <;> omega⟩
          rw [HIS.out]
          have : (i : Int) * 281474976710656 ≤ 128 * 281474976710656 := Int.mul_le_mul_of_nonneg_right (by omega) (by decide)
          first | omega | (unfold wrap64; omega)
        · obtain rfl : i = rs.length := by omega
          rw [Nat.sub_self] at aW aG aO
          rw [List.take_of_length_le (by rw [List.length_map, h.len]; exact Nat.le_refl _)] at aW ⊢
          have hflen : (fracs qs).length = rs.length := by unfold fracs; rw [List.length_map, h.len]
          have hRt : Rats wr (some ⟨bg, 0, none⟩) rs.length prs (fracs qs) (L + 10) := by
            refine ⟨by rw [hflen, hpl], by omega, by omega, by omega, fun k hk => ⟨bg, 0, rfl, ?_, ?_, ?_⟩, fun k hk => ?_⟩
            · rw [Nat.zero_add, aG.cell, List.getElem?_append_left (by rw [ratCells_length]; omega)]; exact ratCells_get prs k 0 hk (by decide)
            · rw [Nat.zero_add, aG.cell, List.getElem?_append_left (by rw [ratCells_length]; omega)]; exact ratCells_get prs k 1 hk (by decide)
            · rw [Nat.zero_add, aG.cell, List.getElem?_append_left (by rw [ratCells_length]; omega)]; exact ratCells_get prs k 2 hk (by decide)
            · have h5 := (hcan k hk).isRat
              have hkq : k < qs.length := by rw [h.len]; omega
              have e5 : qs[k]?.getD 0 = qs[k]'hkq := by rw [List.getElem?_eq_getElem hkq]; rfl
              rw [e5] at h5
              have e6 : (fracs qs)[k]'(by omega) = qs[k]'hkq - (((qs[k]'hkq).floor : Int) : Rat) := by unfold fracs; simp
              rw [e6]
              refine h5.mono ?_
              have l1 := rsz_sub (qs[k]'hkq) (((qs[k]'hkq).floor : Int) : Rat)
              have l2 := rsz_int (qs[k]'hkq).floor
              obtain ⟨l3, l4⟩ := apOk_floor (hall k (by omega))
              have l5 := len_natAbs_i64 (z := (qs[k]'hkq).floor) (by omega) (by omega)
              have l6 := (h.num k (by omega)).rsz
              omega
          have hsort := ap_sort wr pb bg bo rs.length (L + 10) rs.length prs (fracs qs) (by have := aP.cell 0; simpa using this) hRt hpl (by omega) h0n (by omega) (by omega) (by omega)
            (fun k hk => ⟨fun x e => by have := (hcan k hk).fa x e; omega, fun x e => by have := (hcan k hk).fb x e; omega⟩)
            (fun k hk => ⟨by
              rw [aO.cell, i64s_get _ _ (by simp; exact hk)]
              simp, aO.frozen k⟩)
          have HS := Lib.hid hsort
          clear hsort hRt
          obtain ⟨M, hM⟩ : ∃ M : Nat, F - isum (qs.map Rat.floor) = (M : Int) := ⟨(F - isum (qs.map Rat.floor)).toNat, by have := HF.out; omega⟩
          have hMn : M ≤ rs.length := by have := HF.out; omega
          rw [hM]
          have HMM : Hid (M = ((qsum qs).floor - isum (qs.map Rat.floor)).toNat) := (show _ = _ by have := HF.out; omega)
          clear hM
          go_wp2_with fail
          refine HS.out.mono ?_
          rintro e w15 ⟨rfl, hso⟩
          have sz15 := hso.size
          have A1 : Arr w15 bw 3 (i64s (apInc (fracs qs) rs.length (qs.map Rat.floor) 0)) := by
            unfold Arr
            rw [hso.agree bw (by omega) (by omega)]
            have h5 := aW
            rw [List.replicate_zero, List.append_nil] at h5
            exact h5
          have X15 : Ext w w15 := ⟨⟨hso.os.trans hxw.below.os, hso.tape.trans hxw.below.tape, hso.output.trans hxw.below.output, by have := hxw.size; omega, fun k hk => (hso.agree k (by have := hxw.size; omega) (by omega)).trans (hxw.below.block k hk)⟩, Nat.le_trans hxw.drawn hso.drawn⟩
          have cO := hso.cell
          have CO := Lib.hid cO
          clear cO aW aG aP aO hcan HS hso
          go_wp2_with fail
          go_loopw [105] (fun ii wr => ∃ t : Nat, t ≤ M ∧ Hid (Arr wr bw 3 (i64s (apInc (fracs qs) rs.length (qs.map Rat.floor) t))) ∧ Hid (∀ j, j < rs.length → wr.cell? ⟨bo, j, none⟩ = some (.int .i64 (apAt (fracs qs) rs.length j : Nat))) ∧ Ext w wr ∧ ii = .int .i64 t) (fun ii _ => M - (intOf ii).toNat)
          case atStart => exact ⟨0, Nat.zero_le _, A1, CO, X15, rfl⟩
          case round =>
            obtain ⟨t, ht, hA, hC, hX, rfl⟩ := hrel
            by_cases htl : t < M
            · have c1 := hC.out t (by omega)
              have hp := apAt_lt (fracs qs) rs.length t (by omega)
              have hl := apInc_length (fracs qs) rs.length (qs.map Rat.floor) t
              rw [List.length_map, h.len] at hl
              have c2 : wr.cell? ⟨bw, apAt (fracs qs) rs.length t, none⟩ = some (.int .i64 ((apInc (fracs qs) rs.length (qs.map Rat.floor) t)[apAt (fracs qs) rs.length t]?.getD 0)) := by
                rw [hA.out.cell, i64s_get _ _ (by omega), List.getElem?_eq_getElem (by omega)]; rfl
              have c3 := hA.out.frozen (apAt (fracs qs) rs.length t)
              have hbd := apInc_bound (fracs qs) rs.length (qs.map Rat.floor) t (apAt (fracs qs) rs.length t) (by
                intro x hx
                obtain ⟨q, hq, rfl⟩ := List.mem_map.1 hx
                obtain ⟨k, hk, rfl⟩ := List.getElem_of_mem hq
                exact apOk_floor (hall k (by rw [← h.len]; exact hk)))
              have D1 : Arr (wr.setCell ⟨bw, apAt (fracs qs) rs.length t, none⟩ (.int .i64 ((apInc (fracs qs) rs.length (qs.map Rat.floor) t)[apAt (fracs qs) rs.length t]?.getD 0 + 1))) bw 3 (i64s (apInc (fracs qs) rs.length (qs.map Rat.floor) (t + 1))) := by
                have h5 := hA.out.set (apAt (fracs qs) rs.length t) (.int .i64 ((apInc (fracs qs) rs.length (qs.map Rat.floor) t)[apAt (fracs qs) rs.length t]?.getD 0 + 1))
                unfold i64s at h5
                rw [← List.map_set] at h5
                exact h5
              have D2 : ∀ j, j < rs.length → (wr.setCell ⟨bw, apAt (fracs qs) rs.length t, none⟩ (.int .i64 ((apInc (fracs qs) rs.length (qs.map Rat.floor) t)[apAt (fracs qs) rs.length t]?.getD 0 + 1))).cell? ⟨bo, j, none⟩ = some (.int .i64 (apAt (fracs qs) rs.length j : Nat)) := by
                intro j hj
                rw [World.cell?_setCell_other _ _ _ _ (by intro e; simp only [Addr.mk.injEq] at e; omega)]
                exact hC.out j hj
              have HD1 := Lib.hid D1; have HD2 := Lib.hid D2
              clear D1 D2
              generalize (apInc (fracs qs) rs.length (qs.map Rat.floor) t)[apAt (fracs qs) rs.length t]?.getD 0 = v at *
              generalize apAt (fracs qs) rs.length t = p at *
              go_wp2_with fail
              go_roundw
              case rel => exact ⟨t + 1, by omega, HD1, HD2, hX.setCell (by simp only; omega) _, by go_num⟩
              case measure => simp [intOf] <;> omega
            · obtain rfl : t = M := by omega
              have hl := apInc_length (fracs qs) rs.length (qs.map Rat.floor) t
              rw [List.length_map, h.len] at hl
              have HL := Lib.hid hl; clear hl
              go_wp2_with fail
              go_ret2
              have hfin := HOUT.out
              rw [← HMM.out] at hfin
              rw [hfin]
              exact ⟨bw, by rw [HL.out]; rfl, o1, hA.out, hX⟩

end Go.Proofs.YtgihpfkjpfanmaaGreat

/- settlement.Apportion: its premises, in plain words. -/
namespace Go.Proofs.YtgihpfkjpfanmaaGreat
open Go.RowKit

theorem qsum_nil : qsum [] = 0 := rfl
theorem qsum_take_zero (l : List Rat) : qsum (l.take 0) = 0 := rfl

theorem sum_take {l : List Rat} {i : Nat} (h : i < l.length) : isum ((l.map Rat.floor).take (i + 1)) = isum ((l.map Rat.floor).take i) + l[i].floor := by
  rw [List.take_succ_eq_append_getElem (by simpa using h)]; unfold isum; simp

/-- The sum lies between the sum of the floors and that sum with 1 more for each number. -/
theorem sum_between (l : List Rat) : ∀ i, i ≤ l.length → ((isum ((l.map Rat.floor).take i) : Int) : Rat) ≤ qsum (l.take i) ∧ qsum (l.take i) ≤ ((isum ((l.map Rat.floor).take i) + i : Int) : Rat) := by
  intro i
  induction i with
  | zero =>
    intro _
    rw [qsum_take_zero]
    have : isum ((l.map Rat.floor).take 0) = 0 := rfl
    rw [this]
    exact ⟨by simp, by simp⟩
  | succ i ih =>
    intro hi
    obtain ⟨h1, h2⟩ := ih (by omega)
    rw [qsum_take (by omega), sum_take (by omega)]
    have h3 := Rat.floor_le l[i]
    have h4 := Rat.lt_floor_add_one l[i]
    generalize qsum (l.take i) = s at *
    generalize isum ((l.map Rat.floor).take i) = z at *
    generalize l[i] = q at *
    generalize q.floor = f at *
    constructor
    · rw [Rat.intCast_add]; grind
    · have e : ((z + f + ((i + 1 : Nat) : Int) : Int) : Rat) = ((z + (i : Int) : Int) : Rat) + ((f : Int) : Rat) + 1 := by
        push_cast; grind
      rw [e]; grind

theorem rsz_qsum (l : List Rat) (L : Nat) (h : ∀ i (hi : i < l.length), rsz l[i] ≤ L) : ∀ i, i ≤ l.length → rsz (qsum (l.take i)) ≤ i * (L + 1) + 1 := by
  intro i
  induction i with
  | zero => intro _; rw [qsum_take_zero, Nat.zero_mul, Nat.zero_add]; show rsz (((0 : Int) : Rat)) ≤ 1; rw [rsz_int]; decide
  | succ i ih =>
    intro hi
    rw [qsum_take (by omega)]
    have h1 := ih (by omega)
    have h2 := h i (by omega)
    have h3 := rsz_add (qsum (l.take i)) l[i]
    rw [Nat.succ_mul]; omega

/-- What Apportion makes of numbers whose sum is an integer. -/
def apOut (qs : List Rat) : List Int := apInc (fracs qs) qs.length (qs.map Rat.floor) ((qsum qs).floor - isum (qs.map Rat.floor)).toNat

theorem ap_main (w : World) (a : Option Addr) (c L : Nat) (rs : List RVal) (qs : List Rat) (h : Rats w a c rs qs L) (hn : rs.length ≤ 128) (h0 : 0 < rs.length) (hL : L < 100000) (hall : ∀ i (hi : i < rs.length), apOk (qs[i]'(by rw [h.len]; exact hi))) (hint : qsum qs = (((qsum qs).floor : Int) : Rat)) :
    Calls Tryz.prog 33 #[.slice a rs.length c] w (ApGood (apOut qs) w) := by
  have hb := sum_between qs qs.length (Nat.le_refl _)
  rw [List.take_of_length_le (by simp), List.take_length] at hb
  have hm0 : isum (qs.map Rat.floor) ≤ (qsum qs).floor := by rw [Rat.le_floor_iff]; exact hb.1
  have hm1 : (qsum qs).floor ≤ isum (qs.map Rat.floor) + rs.length := by
    rw [← h.len]
    have h2 := hb.2
    rw [hint] at h2
    exact Rat.intCast_le_intCast.1 h2
  have hib := isum_bound (qs.map Rat.floor) 281474976710656 (by
    intro x hx
    obtain ⟨q, hq, rfl⟩ := List.mem_map.1 hx
    obtain ⟨k, hk, rfl⟩ := List.getElem_of_mem hq
    exact apOk_floor (hall k (by rw [← h.len]; exact hk)))
  rw [List.length_map, h.len] at hib
  have hn' : (rs.length : Int) * 281474976710656 ≤ 128 * 281474976710656 := Int.mul_le_mul_of_nonneg_right (by omega) (by decide)
  have hsz : rsz (qsum qs) < 100000000 := by
    have h5 := rsz_qsum qs (L + 1) (fun i hi => by have := (h.num i (by rw [← h.len]; exact hi)).rsz; omega) qs.length (Nat.le_refl _)
    rw [List.take_length, h.len] at h5
    have := Nat.mul_le_mul hn (show L + 1 + 1 ≤ 100001 by omega)
    omega
  have := ap_good w a c L rs qs h hn hL hall (by omega) (by omega) hint h0 hm0 hm1 hsz
  rw [← h.len] at this ⊢
  exact this
end Go.Proofs.YtgihpfkjpfanmaaGreat

/- uplift.Share. -/
namespace Go.Proofs.YtgihpfkjpfanmaaGreat
open Go.RowKit

set_option maxHeartbeats 2000000 in
set_option maxRecDepth 100000 in
/-- uplift.Share where all weights are 0. -/
theorem share_none (w : World) (T : Int) (a : Option Addr) (c L : Nat) (rs : List RVal) (qs : List Rat) (h : Rats w a c rs qs L) (hn : rs.length ≤ 128) (hL : L < 100) (hT1 : -281474976710656 ≤ T) (hT2 : T ≤ 281474976710656) (hpos : ∀ i (hi : i < rs.length), 0 ≤ (qs[i]'(by rw [h.len]; exact hi))) (h0 : qsum qs = 0) :
    Calls Tryz.prog 45 #[.int .i64 T, .slice a rs.length c] w fun e w' => e = .returned (.tuple #[.slice none 0 0, .int .i64 20]) ∧ Ext w w' := by
  have hle := h.le
  have hcap := h.cap
  have hsh := h.short
  have hSb : rs.length * (L + 2) + L + 1 < 100000000 := by
    have := Nat.mul_le_mul hn (show L + 2 ≤ 102 by omega)
    omega
  have hsz : rsz (qsum qs) < 20000 := by
    have h5 := rsz_qsum qs (L + 1) (fun i hi => by have := (h.num i (by rw [← h.len]; exact hi)).rsz; omega) qs.length (Nat.le_refl _)
    rw [List.take_length, h.len] at h5
    have := Nat.mul_le_mul hn (show L + 1 + 1 ≤ 101 by omega)
    omega
  have hFT := fun V => rat_FromInt V T (by omega) (by omega)
  have hSum := fun V (hV : Ext w V) => rat_Sum V a c rs qs L (h.ext hV) hSb
  have hszT : rsz ((T : Int) : Rat) ≤ 2 := by rw [rsz_int]; have := len_natAbs_i64 (z := T) (by omega) (by omega); omega
  generalize ((T : Int) : Rat) = tq at *
  obtain ⟨S, hS⟩ : ∃ S, S = qsum qs := ⟨_, rfl⟩
  rw [← hS] at hSum hsz h0
  have HFT := Lib.hid hFT; have HSum := Lib.hid hSum
  clear hFT hSum hS
  have d1 : decide ((281474976710656 : Int) < T) = false := by simp; omega
  have d2 : decide (T < (-281474976710656 : Int)) = false := by simp; omega
  have d3 : decide ((128 : Int) < (rs.length : Int)) = false := by simp; omega
  go_enter Tryz.func45, Tryz.ntmps45
  go_wp2_with fail
  go_loopw [26] (fun ii wr => ∃ j : Nat, j ≤ rs.length ∧ Ext w wr ∧ ii = .int .i64 j) (fun ii _ => rs.length - (intOf ii).toNat)
  case atStart => exact ⟨0, Nat.zero_le _, Ext.refl _, rfl⟩
  case round =>
    obtain ⟨j, hj, hE, rfl⟩ := hrel
    by_cases hlt : j < rs.length
    · have hq := h.ext hE
      obtain ⟨b, o, rfl⟩ := h.at (by omega)
      obtain ⟨b', o', e', c0, c1, c2⟩ := hq.cell j hlt
      cases e'
      obtain ⟨n2, m2', g1, g2, gq, gl1, gl2⟩ := hq.num j hlt
      have hSg := fun V (hV : Ext wr V) => rat_Sign V rs[j].s _ _ _ _ _ _ _ _ (g1.ext hV) (g2.ext hV)
      have hp := Rat.num_nonneg.2 (hpos j hlt)
      rw [← gq] at hSg
      have hsn : decide ((qs[j]'(by rw [h.len]; exact hlt)).num.sign < 0) = false := by
        rcases Int.lt_or_eq_of_le hp with h5 | h5
        · rw [Int.sign_eq_one_of_pos h5]; decide
        · rw [← h5]; decide
      generalize (qs[j]'(by rw [h.len]; exact hlt)).num.sign = z at hSg hsn
      have HSg := Lib.hid hSg
      clear hSg gq hp hq
      generalize rs[j] = y at *
      go_upto_region 6 with fail
      obtain ⟨V, hV, xv, Zv, Av⟩ := boxes1 wr 55 [.bool y.s, .slice y.a y.k y.c, .slice y.b y.j y.d]
      rw [← hV]
      clear hV c0 c1 c2
      obtain ⟨m0, m1, m2, -, -, -⟩ := box3 Av (Ext.refl _)
      go_wp2_with fail
      refine (HSg.out _ xv).mono ?_
      rintro e w2 ⟨rfl, x2⟩
      go_wp2_with fail
      go_roundw
      case rel => exact ⟨j + 1, by omega, (hE.trans xv).trans x2, by go_num⟩
      case measure => simp [intOf] <;> omega
    · obtain rfl : j = rs.length := by omega
      go_wp2_with fail
      refine (HFT.out _).mono ?_
      intro e w2 hN
      obtain ⟨r2, rfl, hr2, x2⟩ := hN.isCan
      clear hN
      go_wp2_with fail
      refine (HSum.out _ (hE.trans x2)).mono ?_
      intro e w3 hN
      obtain ⟨r3, rfl, hr3, x3⟩ := hN.isCan
      clear hN
      obtain ⟨n2, m2, g1, g2, gq, gl1, gl2⟩ := hr2.isRat.ext x3
      obtain ⟨n3, m3, f1, f2, fq, fl1, fl2⟩ := hr3.isRat
      have hDv := rat_Div_zero w3 r2.s _ _ _ _ _ _ _ _ g1 g2 r3.s _ _ _ _ _ _ _ _ f1 f2 (by rw [← fq]; exact h0)
      have HDv := Lib.hid hDv
      clear hDv gq fq
      go_wp2_with fail
      refine HDv.out.mono ?_
      rintro e w4 ⟨rfl, x4⟩
      go_wp2_with fail
      go_ret2
      exact ⟨rfl, (((hE.trans x2).trans x3).trans x4).alloc _⟩

/-- The state at the head of the loop. -/
def ShAt (W4 : World) (R : Rat) (qs : List Rat) (n bp BB : Nat) (i : Nat) (wr : World) : Prop :=
  ∃ prs : List RVal, prs.length = i ∧ i ≤ n ∧ Arr wr bp 55 (ratCells prs ++ zeros3 (n - i)) ∧ (∀ k (hk : k < prs.length), IsCan wr prs[k] (R * qs[k]?.getD 0) BB) ∧ Ext W4 wr ∧ BB ≤ wr.heap.size

set_option maxHeartbeats 4000000 in
set_option maxRecDepth 100000 in
/-- uplift.Share. -/
theorem share_main (w : World) (T : Int) (a : Option Addr) (c L : Nat) (rs : List RVal) (qs : List Rat) (h : Rats w a c rs qs L) (hn : rs.length ≤ 128) (hL : L < 100) (hT1 : -281474976710656 ≤ T) (hT2 : T ≤ 281474976710656) (hpos : ∀ i (hi : i < rs.length), 0 ≤ (qs[i]'(by rw [h.len]; exact hi))) (h0n : 0 < rs.length) (hS0 : ¬ qsum qs = 0) (hok : ∀ i (hi : i < qs.length), apOk (((T : Int) : Rat) / qsum qs * qs[i])) (hint : qsum (qs.map fun q => ((T : Int) : Rat) / qsum qs * q) = (((qsum (qs.map fun q => ((T : Int) : Rat) / qsum qs * q)).floor : Int) : Rat)) :
    Calls Tryz.prog 45 #[.int .i64 T, .slice a rs.length c] w (ApGood (apOut (qs.map fun q => ((T : Int) : Rat) / qsum qs * q)) w) := by
  obtain ⟨out, hout⟩ : ∃ out, out = apOut (qs.map fun q => ((T : Int) : Rat) / qsum qs * q) := ⟨_, rfl⟩
  rw [← hout]
  have hle := h.le
  have hcap := h.cap
  have hsh := h.short
  have hSb : rs.length * (L + 2) + L + 1 < 100000000 := by
    have := Nat.mul_le_mul hn (show L + 2 ≤ 102 by omega)
    omega
  have hsz : rsz (qsum qs) < 20000 := by
    have h5 := rsz_qsum qs (L + 1) (fun i hi => by have := (h.num i (by rw [← h.len]; exact hi)).rsz; omega) qs.length (Nat.le_refl _)
    rw [List.take_length, h.len] at h5
    have := Nat.mul_le_mul hn (show L + 1 + 1 ≤ 101 by omega)
    omega
  have hFT := fun V => rat_FromInt V T (by omega) (by omega)
  have hSum := fun V (hV : Ext w V) => rat_Sum V a c rs qs L (h.ext hV) hSb
  have hszT : rsz ((T : Int) : Rat) ≤ 2 := by rw [rsz_int]; have := len_natAbs_i64 (z := T) (by omega) (by omega); omega
  generalize ((T : Int) : Rat) = tq at *
  obtain ⟨S, hS⟩ : ∃ S, S = qsum qs := ⟨_, rfl⟩
  rw [← hS] at hSum hsz hS0 hok hint hout
  have HFT := Lib.hid hFT; have HSum := Lib.hid hSum
  have HOK := Lib.hid hok; have HINT := Lib.hid hint; have HOUT := Lib.hid hout
  clear hFT hSum hS hok hint hout
  have d1 : decide ((281474976710656 : Int) < T) = false := by simp; omega
  have d2 : decide (T < (-281474976710656 : Int)) = false := by simp; omega
  have d3 : decide ((128 : Int) < (rs.length : Int)) = false := by simp; omega
  go_enter Tryz.func45, Tryz.ntmps45
  go_wp2_with fail
  go_loopw [26] (fun ii wr => ∃ j : Nat, j ≤ rs.length ∧ Ext w wr ∧ ii = .int .i64 j) (fun ii _ => rs.length - (intOf ii).toNat)
  case atStart => exact ⟨0, Nat.zero_le _, Ext.refl _, rfl⟩
  case round =>
    obtain ⟨j, hj, hE, rfl⟩ := hrel
    by_cases hlt : j < rs.length
    · have hq := h.ext hE
      obtain ⟨b, o, rfl⟩ := h.at (by omega)
      obtain ⟨b', o', e', c0, c1, c2⟩ := hq.cell j hlt
      cases e'
      obtain ⟨n2, m2', g1, g2, gq, gl1, gl2⟩ := hq.num j hlt
      have hSg := fun V (hV : Ext wr V) => rat_Sign V rs[j].s _ _ _ _ _ _ _ _ (g1.ext hV) (g2.ext hV)
      have hp := Rat.num_nonneg.2 (hpos j hlt)
      rw [← gq] at hSg
      have hsn : decide ((qs[j]'(by rw [h.len]; exact hlt)).num.sign < 0) = false := by
        rcases Int.lt_or_eq_of_le hp with h5 | h5
        · rw [Int.sign_eq_one_of_pos h5]; decide
        · rw [← h5]; decide
      generalize (qs[j]'(by rw [h.len]; exact hlt)).num.sign = z at hSg hsn
      have HSg := Lib.hid hSg
      clear hSg gq hp hq
      generalize rs[j] = y at *
      go_upto_region 6 with fail
      obtain ⟨V, hV, xv, Zv, Av⟩ := boxes1 wr 55 [.bool y.s, .slice y.a y.k y.c, .slice y.b y.j y.d]
      rw [← hV]
      clear hV c0 c1 c2
      obtain ⟨m0, m1, m2, -, -, -⟩ := box3 Av (Ext.refl _)
      go_wp2_with fail
      refine (HSg.out _ xv).mono ?_
      rintro e w2 ⟨rfl, x2⟩
      go_wp2_with fail
      go_roundw
      case rel => exact ⟨j + 1, by omega, (hE.trans xv).trans x2, by go_num⟩
      case measure => simp [intOf] <;> omega
    · obtain rfl : j = rs.length := by omega
      go_wp2_with fail
      refine (HFT.out _).mono ?_
      intro e w2 hN
      obtain ⟨r2, rfl, hr2, x2⟩ := hN.isCan
      clear hN
      go_wp2_with fail
      refine (HSum.out _ (hE.trans x2)).mono ?_
      intro e w3 hN
      obtain ⟨r3, rfl, hr3, x3⟩ := hN.isCan
      clear hN
      obtain ⟨n2, m2, g1, g2, gq, gl1, gl2⟩ := hr2.isRat.ext x3
      obtain ⟨n3, m3, f1, f2, fq, fl1, fl2⟩ := hr3.isRat
      have hDv := rat_Div w3 r2.s _ _ _ _ _ _ _ _ g1 g2 r3.s _ _ _ _ _ _ _ _ f1 f2 (by omega) (by omega) (by omega) (by omega) (by rw [← fq]; exact hS0)
      rw [← gq, ← fq] at hDv
      have hszR : rsz (tq / S) ≤ 20010 := by have := rsz_div tq S; omega
      generalize tq / S = R at *
      have HDv := Lib.hid hDv
      clear hDv gq fq
      go_wp2_with fail
      refine HDv.out.mono ?_
      rintro e w4 ⟨a4, c4, b4, d4, rfl, r4, f4, q4, g4, x4⟩
      go_upto_region 10 with fail
      obtain ⟨W4, hW4, y4, Z4, A4⟩ := boxes1 w4 55 [.bool (decide (R.num < 0)), .slice a4 (len R.num.natAbs) c4, .slice b4 (len R.den) d4]
      rw [← hW4]
      clear hW4
      have xW4 : Ext w W4 := (((hE.trans x2).trans x3).trans x4).trans y4
      have rN := r4.ext y4
      have rD := q4.ext y4
      clear r4 q4 f4 g4 hr2 hr3 g1 g2 f1 f2 HDv HFT HSum
      have lR1 := rsz_num R
      have lR2 := rsz_den R
      go_upto_region 13 with (at_make; refine wpList_make_three _ rfl _ _ 48 rfl 55 (.agg zero3.toArray) 56 Tryz.underlying48 Tryz.info_rat rfl _ _ rs.length rfl rfl (by go_num) (by go_num) (by omega) (by omega) ?_; intro w5 hw5 hx5 hz5)
      obtain ⟨bp, hbp⟩ : ∃ bp, bp = W4.heap.size := ⟨_, rfl⟩
      obtain ⟨BB, hBB⟩ : ∃ BB, BB = w5.heap.size := ⟨_, rfl⟩
      have o5 : bp < BB := by have := hz5.out; omega
      have o1 := xW4.size
      have SI : Hid (ShAt W4 R qs rs.length bp BB 0 w5) := ⟨[], rfl, Nat.zero_le _, by rw [hbp]; exact hw5.out, fun k hk => absurd hk (by simp), hx5, by omega⟩
      rw [← hbp]
      have o6 : W4.heap.size ≤ bp := by omega
      clear hw5 hz5 hx5 hbp hBB
      go_wp2_with fail
      go_loopw [49] (fun ii wr => ∃ i : Nat, ShAt W4 R qs rs.length bp BB i wr ∧ ii = .int .i64 i) (fun ii _ => rs.length - (intOf ii).toNat)
      case atStart => exact ⟨0, SI.out, rfl⟩
      case round =>
        obtain ⟨i, hAt, rfl⟩ := hrel
        obtain ⟨prs, hpl, hi, aG, hcan, hx, hBw⟩ := hAt
        by_cases hlt : i < rs.length
        · have hil : i < qs.length := by rw [h.len]; exact hlt
          obtain ⟨b, o, rfl⟩ := h.at (by omega)
          obtain ⟨b', o', e', c0, c1, c2⟩ := (h.ext (xW4.trans hx)).cell i hlt
          cases e'
          obtain ⟨n6, m6, g1, g2, gq, gl1, gl2⟩ := h.num i hlt
          have hqi : qs[i]?.getD 0 = qs[i]'hil := by rw [List.getElem?_eq_getElem hil]; rfl
          have hMul := fun V (hV : Ext W4 V) => rat_Mul V (decide (R.num < 0)) _ _ _ _ _ _ _ _ (rN.ext hV) (rD.ext hV) rs[i].s _ _ _ _ _ _ _ _ (g1.ext (xW4.trans hV)) (g2.ext (xW4.trans hV)) (by omega) (by omega) (by omega) (by omega)
          rw [sgn_num, Rat.mkRat_self, ← gq, ← hqi] at hMul
          have HMul := Lib.hid hMul
          clear hMul gq g1 g2 hqi
          generalize rs[i] = y at *
          have b0 : (0 : Int) ≤ (i : Int) := by omega
          have b1 : (i : Int) < (rs.length : Int) := by omega
          go_upto_region 16 with fail
          obtain ⟨V0, hV0, xv, Zv, Av⟩ := boxes1 wr 55 [.bool y.s, .slice y.a y.k y.c, .slice y.b y.j y.d]
          rw [← hV0]
          clear hV0 c0 c1 c2
          obtain ⟨m0, m1, m2, -, -, -⟩ := box3 Av (Ext.refl _)
          obtain ⟨k0, k1, k2, -, -, -⟩ := box3 A4 (hx.trans xv)
          go_wp2_with fail
          refine (HMul.out _ (hx.trans xv)).mono ?_
          intro e w6 hN
          obtain ⟨r6, rfl, hr6, x6⟩ := hN.isCan
          clear hN m0 m1 m2 k0 k1 k2
          have v6 : Ext wr w6 := xv.trans x6
          have sz6 := v6.size
          have szv := xv.size
          have hpc : (ratCells prs).length = i * 3 := by rw [ratCells_length, hpl]
          obtain ⟨m, hm⟩ : ∃ m, rs.length - i = m + 1 := ⟨rs.length - i - 1, by omega⟩
          have hm' : rs.length - (i + 1) = m := by omega
          rw [hm] at aG
          obtain ⟨p0, p1, p2, p3, p4, p5⟩ := zero_at (aG.ext v6) hpc
          have C2 : Arr (((w6.setCell ⟨bp, i * 3, none⟩ (.bool r6.s)).setCell ⟨bp, i * 3 + 1, none⟩ (.slice r6.a r6.k r6.c)).setCell ⟨bp, i * 3 + 2, none⟩ (.slice r6.b r6.j r6.d)) bp 55 (ratCells (prs ++ [r6]) ++ zeros3 m) := by
            have h5 := (((aG.ext v6).set (i * 3) (.bool r6.s)).set (i * 3 + 1) (.slice r6.a r6.k r6.c)).set (i * 3 + 2) (.slice r6.b r6.j r6.d)
            have h6 := fill3 (ratCells prs) m (.bool r6.s) (.slice r6.a r6.k r6.c) (.slice r6.b r6.j r6.d)
            rw [hpc] at h6
            rw [h6] at h5
            rw [ratCells_snoc]
            exact h5
          have C6 := fun k hk => ((((hcan k hk).ext v6).setCell ⟨bp, i * 3, none⟩ (.bool r6.s) (by simp only; omega)).setCell ⟨bp, i * 3 + 1, none⟩ (.slice r6.a r6.k r6.c) (by simp only; omega)).setCell ⟨bp, i * 3 + 2, none⟩ (.slice r6.b r6.j r6.d) (by simp only; omega)
          have C6' := (((hr6.mono (show BB ≤ V0.heap.size by omega)).setCell ⟨bp, i * 3, none⟩ (.bool r6.s) (by simp only; omega)).setCell ⟨bp, i * 3 + 1, none⟩ (.slice r6.a r6.k r6.c) (by simp only; omega)).setCell ⟨bp, i * 3 + 2, none⟩ (.slice r6.b r6.j r6.d) (by simp only; omega)
          have C7 : Ext W4 (((w6.setCell ⟨bp, i * 3, none⟩ (.bool r6.s)).setCell ⟨bp, i * 3 + 1, none⟩ (.slice r6.a r6.k r6.c)).setCell ⟨bp, i * 3 + 2, none⟩ (.slice r6.b r6.j r6.d)) := ((((hx.trans v6).setCell (by simp only; omega) _).setCell (by simp only; omega) _).setCell (by simp only; omega) _)
          have HD : Hid (ShAt W4 R qs rs.length bp BB (i + 1) (((w6.setCell ⟨bp, i * 3, none⟩ (.bool r6.s)).setCell ⟨bp, i * 3 + 1, none⟩ (.slice r6.a r6.k r6.c)).setCell ⟨bp, i * 3 + 2, none⟩ (.slice r6.b r6.j r6.d))) := by
            refine ⟨prs ++ [r6], by simp [hpl], by omega, by rw [hm']; exact C2, ?_, C7, by simp [World.setCell]; omega⟩
            intro k hk
            by_cases hki : k < prs.length
            · rw [List.getElem_append_left hki]; exact C6 k hki
            · have hk' : k = i := by simp at hk; omega
              subst hk'
              rw [List.getElem_append_right (by omega)]
              simp only [hpl, Nat.sub_self, List.getElem_cons_zero]
              exact C6'
          clear C2 C6 C6' C7 hpc hm hm' hcan aG
          go_wp2_with fail
          refine ⟨⟨i + 1, HD.out, by go_num⟩, by simp [intOf] <;> omega⟩
        · obtain rfl : i = rs.length := by omega
          rw [Nat.sub_self] at aG
          have hRt : Rats wr (some ⟨bp, 0, none⟩) rs.length prs (qs.map fun q => R * q) 90000 := by
            refine ⟨by rw [List.length_map, h.len, hpl], by omega, by omega, by omega, fun k hk => ⟨bp, 0, rfl, ?_, ?_, ?_⟩, fun k hk => ?_⟩
            · rw [Nat.zero_add, aG.cell, List.getElem?_append_left (by rw [ratCells_length]; omega)]; exact ratCells_get prs k 0 hk (by decide)
            · rw [Nat.zero_add, aG.cell, List.getElem?_append_left (by rw [ratCells_length]; omega)]; exact ratCells_get prs k 1 hk (by decide)
            · rw [Nat.zero_add, aG.cell, List.getElem?_append_left (by rw [ratCells_length]; omega)]; exact ratCells_get prs k 2 hk (by decide)
            · have h5 := (hcan k hk).isRat
              have hkq : k < qs.length := by rw [h.len]; omega
              have e5 : qs[k]?.getD 0 = qs[k]'hkq := by rw [List.getElem?_eq_getElem hkq]; rfl
              rw [e5] at h5
              have e6 : (qs.map fun q => R * q)[k]'(by simpa using hkq) = R * qs[k]'hkq := by simp
              rw [e6]
              refine h5.mono ?_
              have l1 := rsz_mul R (qs[k]'hkq)
              have l6 := (h.num k (by omega)).rsz
              omega
          have hap := ap_main wr (some ⟨bp, 0, none⟩) rs.length 90000 prs (qs.map fun q => R * q) hRt (by omega) (by omega) (by omega) (fun k hk => by
            have hkq : k < qs.length := by rw [h.len]; omega
            have := HOK.out k hkq
            simpa using this) HINT.out
          rw [← HOUT.out, hpl] at hap
          have HAP := Lib.hid hap
          clear hap hRt aG hcan
          go_wp2_with fail
          refine HAP.out.mono ?_
          rintro e w7 ⟨b7, rfl, hb7, hA7, x7⟩
          go_wp2_with fail
          go_ret2
          exact ⟨b7, rfl, Nat.le_trans (xW4.trans hx).size hb7, hA7, (xW4.trans hx).trans x7⟩

end Go.Proofs.YtgihpfkjpfanmaaGreat

/- uplift.Share: its premises, in plain words. -/
namespace Go.Proofs.YtgihpfkjpfanmaaGreat
open Go.RowKit

theorem foldl_qadd (l : List Rat) (s : Rat) : l.foldl (· + ·) s = s + qsum l := by
  unfold qsum
  induction l generalizing s with
  | nil => simp [Rat.add_zero]
  | cons a l ih => rw [List.foldl_cons, List.foldl_cons, ih, ih (0 + a)]; grind
theorem qsum_cons (a : Rat) (l : List Rat) : qsum (a :: l) = a + qsum l := by
  rw [show qsum (a :: l) = l.foldl (· + ·) (0 + a) from rfl, foldl_qadd]; grind
theorem qsum_scale (c : Rat) (l : List Rat) : qsum (l.map fun q => c * q) = c * qsum l := by
  induction l with
  | nil => simp [qsum]
  | cons a l ih => rw [List.map_cons, qsum_cons, qsum_cons, ih]; grind
theorem qsum_nonneg (l : List Rat) (h : ∀ x ∈ l, 0 ≤ x) : 0 ≤ qsum l := by
  induction l with
  | nil => simp [qsum]
  | cons a l ih =>
    rw [qsum_cons]
    have h1 := h a (by simp)
    have h2 := ih (fun x hx => h x (by simp [hx]))
    grind
theorem le_qsum (l : List Rat) (h : ∀ x ∈ l, 0 ≤ x) : ∀ x ∈ l, x ≤ qsum l := by
  induction l with
  | nil => simp
  | cons a l ih =>
    intro x hx
    rw [qsum_cons]
    have h1 := h a (by simp)
    have h2 := qsum_nonneg l (fun x hx => h x (by simp [hx]))
    rcases List.mem_cons.1 hx with rfl | hx
    · grind
    · have := ih (fun x hx => h x (by simp [hx])) x hx
      grind

/-- A part of T: between -|T| and |T|. -/
theorem part_ok (T : Int) (S q : Rat) (hT1 : -281474976710656 ≤ T) (hT2 : T ≤ 281474976710656) (h0 : 0 ≤ q) (hq : q ≤ S) (hS : ¬ S = 0) : apOk (((T : Int) : Rat) / S * q) := by
  have hS0 : 0 < S := by grind
  have hr : ((T : Int) : Rat) / S * q = (T : Rat) * (q / S) := by
    rw [Rat.div_def, Rat.div_def]; grind
  have hf0 : 0 ≤ q / S := by
    rw [Rat.div_def]; exact Rat.mul_nonneg h0 (Rat.le_of_lt (Rat.inv_pos.2 hS0))
  have hf1 : q / S ≤ 1 := by
    rw [Rat.div_def]
    have := Rat.mul_le_mul_of_nonneg_right hq (Rat.le_of_lt (Rat.inv_pos.2 hS0))
    rw [Rat.mul_inv_cancel S hS] at this
    exact this
  have ht1 : (T : Rat) ≤ apMost := by unfold apMost; exact Rat.intCast_le_intCast.2 hT2
  have ht2 : -(T : Rat) ≤ apMost := by
    unfold apMost
    have := Rat.intCast_le_intCast.2 (show -T ≤ (281474976710656 : Int) by omega)
    rw [Rat.intCast_neg] at this
    exact this
  have hM : 0 ≤ apMost := by unfold apMost; decide
  have a1 := Rat.mul_le_mul_of_nonneg_right ht1 hf0
  have a2 := Rat.mul_le_mul_of_nonneg_right ht2 hf0
  have a3 := Rat.mul_le_mul_of_nonneg_left hf1 hM
  unfold apOk
  rw [hr]
  constructor <;> grind

theorem parts_sum (T : Int) (qs : List Rat) (hS : ¬ qsum qs = 0) : qsum (qs.map fun q => ((T : Int) : Rat) / qsum qs * q) = ((T : Int) : Rat) := by
  rw [qsum_scale, Rat.div_mul_cancel hS]

theorem share_ok (w : World) (T : Int) (a : Option Addr) (c L : Nat) (rs : List RVal) (qs : List Rat) (h : Rats w a c rs qs L) (hn : rs.length ≤ 128) (hL : L < 100) (hT1 : -281474976710656 ≤ T) (hT2 : T ≤ 281474976710656) (hpos : ∀ i (hi : i < rs.length), 0 ≤ (qs[i]'(by rw [h.len]; exact hi))) (h0n : 0 < rs.length) (hS0 : ¬ qsum qs = 0) :
    Calls Tryz.prog 45 #[.int .i64 T, .slice a rs.length c] w (ApGood (apOut (qs.map fun q => ((T : Int) : Rat) / qsum qs * q)) w) := by
  have hp : ∀ x ∈ qs, 0 ≤ x := by
    intro x hx
    obtain ⟨i, hi, rfl⟩ := List.getElem_of_mem hx
    exact hpos i (by rw [← h.len]; exact hi)
  refine share_main w T a c L rs qs h hn hL hT1 hT2 hpos h0n hS0 ?_ ?_
  · intro i hi
    exact part_ok T _ _ hT1 hT2 (hp _ (List.getElem_mem hi)) (le_qsum qs hp _ (List.getElem_mem hi)) hS0
  · rw [parts_sum T qs hS0, Rat.floor_intCast]

end Go.Proofs.YtgihpfkjpfanmaaGreat

/- Apportion's numbers: who is raised, in plain words. -/
namespace Go.Proofs.YtgihpfkjpfanmaaGreat
open Go.RowKit

theorem apOrder_perm (fs : List Rat) (n : Nat) : (apOrder fs n).Perm (List.finRange n) := List.mergeSort_perm _ _
theorem apOrder_length (fs : List Rat) (n : Nat) : (apOrder fs n).length = n := by simpa using (apOrder_perm fs n).length_eq
theorem apOrder_sorted (fs : List Rat) (n : Nat) : (apOrder fs n).Pairwise (fun (x y : Fin n) => ¬ apLt fs y x) := by
  have e : ∀ a b : Fin n, (!(ltOf (fun a b : Fin n => apCmp fs a b) b a)) = true ↔ ¬ apLt fs b a := by
    intro a b; unfold ltOf; rw [Bool.not_eq_true', decide_eq_false_iff_not, apCmp_lt]
  have := List.pairwise_mergeSort (le := fun x y : Fin n => !(ltOf (fun a b : Fin n => apCmp fs a b) y x)) (fun a b c h1 h2 => by
    rw [e] at *; exact apLt_ntrans h2 h1) (fun a b => by
    rw [Bool.or_eq_true, e, e]
    by_cases h : apLt fs b a
    · right; intro h2; exact apLt_irrefl fs _ (apLt_trans h h2)
    · left; exact h) (List.finRange n)
  exact this.imp (fun {a b} h => (e a b).1 h)
theorem apAt_eq (fs : List Rat) (n j : Nat) (h : j < (apOrder fs n).length) : apAt fs n j = ((apOrder fs n)[j]).val := by
  unfold apAt; rw [List.getElem?_eq_getElem h]; rfl
theorem apAt_inj (fs : List Rat) (n j k : Nat) (hj : j < n) (hk : k < n) (h : apAt fs n j = apAt fs n k) : j = k := by
  have hl := apOrder_length fs n
  rw [apAt_eq fs n j (by omega), apAt_eq fs n k (by omega)] at h
  have hn : (apOrder fs n).Nodup := (apOrder_perm fs n).nodup_iff.2 (List.nodup_finRange n)
  have hp := List.pairwise_iff_getElem.1 hn
  have he := Fin.ext h
  rcases Nat.lt_trichotomy j k with h1 | h1 | h1
  · exact absurd he (hp j k (by omega) (by omega) h1)
  · exact h1
  · exact absurd he.symm (hp k j (by omega) (by omega) h1)
theorem apAt_surj (fs : List Rat) (n p : Nat) (hp : p < n) : ∃ j, j < n ∧ apAt fs n j = p := by
  have hm : (⟨p, hp⟩ : Fin n) ∈ apOrder fs n := (apOrder_perm fs n).mem_iff.2 (List.mem_finRange _)
  obtain ⟨j, hj, he⟩ := List.getElem_of_mem hm
  exact ⟨j, by rw [← apOrder_length fs n]; exact hj, by rw [apAt_eq fs n j hj, he]⟩
theorem apAt_mono (fs : List Rat) (n j k : Nat) (hj : j < k) (hk : k < n) : apLt fs (apAt fs n j) (apAt fs n k) := by
  have hl := apOrder_length fs n
  have h1 := List.pairwise_iff_getElem.1 (apOrder_sorted fs n) j k (by omega) (by omega) hj
  rw [← apAt_eq, ← apAt_eq] at h1
  refine Classical.byContradiction fun h2 => ?_
  have := apAt_inj fs n j k (by omega) hk (apLt_total fs _ _ h2 h1)
  omega

/-- p is among the first t. -/
def Up (fs : List Rat) (n t p : Nat) : Prop := ∃ j, j < t ∧ apAt fs n j = p

theorem up_before {fs : List Rat} {n t p q : Nat} (ht : t ≤ n) (hq : q < n) (hp : Up fs n t p) (h : apLt fs q p) : Up fs n t q := by
  obtain ⟨j, hj, rfl⟩ := hp
  obtain ⟨k, hk, rfl⟩ := apAt_surj fs n q hq
  refine ⟨k, ?_, rfl⟩
  refine Classical.byContradiction fun h2 => ?_
  rcases Nat.lt_or_eq_of_le (show j ≤ k by omega) with h3 | h3
  · exact apLt_irrefl fs _ (apLt_trans h (apAt_mono fs n j k h3 hk))
  · omega

open Classical in
theorem apInc_get (fs : List Rat) (n : Nat) (l : List Int) (hl : l.length = n) : ∀ t, t ≤ n → ∀ p, p < n → (apInc fs n l t)[p]?.getD 0 = l[p]?.getD 0 + (if Up fs n t p then 1 else 0) := by
  intro t
  induction t with
  | zero =>
    intro _ p _
    have : ¬ Up fs n 0 p := by rintro ⟨j, hj, _⟩; omega
    simp [apInc, this]
  | succ t ih =>
    intro ht p hp
    have hlen := apInc_length fs n l t
    have hat := apAt_lt fs n t (by omega)
    unfold apInc
    by_cases he : apAt fs n t = p
    · have h1 : ¬ Up fs n t p := by
        rintro ⟨j, hj, he2⟩
        have := apAt_inj fs n j t (by omega) (by omega) (by omega)
        omega
      have h2 : Up fs n (t + 1) p := ⟨t, by omega, he⟩
      have := ih (by omega) p hp
      rw [if_neg h1] at this
      rw [if_pos h2, he, List.getElem?_set_self (by omega)]
      simp only [Option.getD_some]
      omega
    · have h3 : Up fs n (t + 1) p ↔ Up fs n t p := by
        constructor
        · rintro ⟨j, hj, he2⟩
          refine ⟨j, ?_, he2⟩
          have : j ≠ t := fun h => he (h ▸ he2)
          omega
        · rintro ⟨j, hj, he2⟩; exact ⟨j, by omega, he2⟩
      have := ih (by omega) p hp
      rw [List.getElem?_set_ne he, this]
      simp only [h3]

theorem isum_set (l : List Int) (p : Nat) (hp : p < l.length) : isum (l.set p (l[p]?.getD 0 + 1)) = isum l + 1 := by
  unfold isum
  induction l generalizing p with
  | nil => simp at hp
  | cons a l ih =>
    cases p with
    | zero => simp; omega
    | succ p =>
      have := ih p (by simpa using hp)
      simp at this ⊢
      omega
theorem isum_apInc (fs : List Rat) (n : Nat) (l : List Int) (hl : l.length = n) : ∀ t, t ≤ n → isum (apInc fs n l t) = isum l + t := by
  intro t
  induction t with
  | zero => intro _; simp [apInc]
  | succ t ih =>
    intro ht
    unfold apInc
    rw [isum_set _ _ (by rw [apInc_length, hl]; exact apAt_lt fs n t (by omega)), ih (by omega)]
    omega

end Go.Proofs.YtgihpfkjpfanmaaGreat

/- UpliftEven's plain law. -/
namespace Go.Proofs.YtgihpfkjpfanmaaGreat
open Go.RowKit

theorem floor_le' (q : Rat) : ((q.floor : Int) : Rat) ≤ q := Rat.le_floor_iff.1 (Int.le_refl _)
theorem lt_floor' (q : Rat) : q < ((q.floor : Int) : Rat) + 1 := by
  have h : ¬ (q.floor + 1 ≤ q.floor) := by omega
  rw [Rat.le_floor_iff, Rat.not_le, Rat.intCast_add] at h
  exact h
theorem fracs_get (qs : List Rat) (p : Nat) (hp : p < qs.length) : (fracs qs)[p]?.getD 0 = qs[p] - ((qs[p].floor : Int) : Rat) := by
  simp [fracs, hp]

/-- How many numbers must be raised. -/
def apMiss (qs : List Rat) : Nat := ((qsum qs).floor - isum (qs.map Rat.floor)).toNat
theorem apOut_miss (qs : List Rat) : apOut qs = apInc (fracs qs) qs.length (qs.map Rat.floor) (apMiss qs) := rfl
theorem isum_cons (a : Int) (l : List Int) : isum (a :: l) = a + isum l := by simp [isum]

/-- The sum is between the sum of the floors and that plus how many parts are not 0. -/
theorem qsum_floor (qs : List Rat) : qsum qs = ((isum (qs.map Rat.floor) : Int) : Rat) + qsum (fracs qs) := by
  induction qs with
  | nil => simp [fracs, isum, qsum, Rat.add_zero]
  | cons a l ih =>
    unfold fracs at *
    rw [List.map_cons, List.map_cons, qsum_cons, qsum_cons, isum_cons, Rat.intCast_add, ih]
    grind
theorem fracs_sum (qs : List Rat) : qsum (fracs qs) ≤ (((qs.countP (fun q => decide (((q.floor : Int) : Rat) < q)) : Nat) : Int) : Rat) := by
  induction qs with
  | nil => simp [fracs, qsum]
  | cons a l ih =>
    unfold fracs at *
    have h1 := floor_le' a
    have h2 := lt_floor' a
    rw [List.map_cons, qsum_cons, List.countP_cons]
    by_cases h : ((a.floor : Int) : Rat) < a
    · rw [if_pos (by simpa using h)]
      rw [Int.natCast_add, Rat.intCast_add]
      have : (((1 : Nat) : Int) : Rat) = 1 := rfl
      grind
    · rw [if_neg (by simpa using h)]
      grind
theorem fracs_nonneg (qs : List Rat) : 0 ≤ qsum (fracs qs) := by
  apply qsum_nonneg
  intro x hx
  unfold fracs at hx
  obtain ⟨q, _, rfl⟩ := List.mem_map.1 hx
  have := floor_le' q
  grind

theorem miss_eq (qs : List Rat) (T : Int) (h : qsum qs = (T : Rat)) : (apMiss qs : Int) = T - isum (qs.map Rat.floor) ∧ apMiss qs ≤ qs.countP (fun q => decide (((q.floor : Int) : Rat) < q)) := by
  have h1 := qsum_floor qs
  have h2 := fracs_sum qs
  have h3 := fracs_nonneg qs
  have e1 : isum (qs.map Rat.floor) ≤ T := by
    apply Rat.intCast_le_intCast.1
    grind
  have e2 : T ≤ isum (qs.map Rat.floor) + (qs.countP (fun q => decide (((q.floor : Int) : Rat) < q)) : Nat) := by
    apply Rat.intCast_le_intCast.1
    rw [Rat.intCast_add]
    grind
  unfold apMiss
  rw [h, Rat.floor_intCast]
  omega

theorem apOut_sum (qs : List Rat) (T : Int) (h : qsum qs = (T : Rat)) : isum (apOut qs) = T := by
  obtain ⟨h1, h2⟩ := miss_eq qs T h
  have := List.countP_le_length (p := fun q : Rat => decide (((q.floor : Int) : Rat) < q)) (l := qs)
  rw [apOut_miss, isum_apInc _ _ _ (by simp) _ (by omega)]
  omega

theorem list_as_map (qs : List Rat) : qs = (List.finRange qs.length).map (fun i => qs[i]) := by
  apply List.ext_getElem
  · simp
  · intro i h1 h2; simp

/-- A whole number is not raised. -/
theorem whole_not_up (qs : List Rat) (T : Int) (h : qsum qs = (T : Rat)) (p : Nat) (hp : p < qs.length) (hw : ((qs[p].floor : Int) : Rat) = qs[p]) : ¬ Up (fracs qs) qs.length (apMiss qs) p := by
  rintro ⟨j, hj, he⟩
  obtain ⟨-, h2⟩ := miss_eq qs T h
  have hc := List.countP_le_length (p := fun q : Rat => decide (((q.floor : Int) : Rat) < q)) (l := qs)
  have hl := apOrder_length (fracs qs) qs.length
  have e : qs.countP (fun q => decide (((q.floor : Int) : Rat) < q)) = (apOrder (fracs qs) qs.length).countP (fun i => decide (((qs[i].floor : Int) : Rat) < qs[i])) := by
    rw [(apOrder_perm (fracs qs) qs.length).countP_eq]
    conv => lhs; rw [list_as_map qs]
    rw [List.countP_map]
    rfl
  have hz : ((apOrder (fracs qs) qs.length).drop j).countP (fun i => decide (((qs[i].floor : Int) : Rat) < qs[i])) = 0 := by
    rw [List.countP_eq_zero]
    intro i hi
    obtain ⟨k, hk, rfl⟩ := List.getElem_of_mem hi
    rw [List.length_drop] at hk
    have hat := apAt_eq (fracs qs) qs.length (j + k) (by omega)
    have hq : (apOrder (fracs qs) qs.length)[j + k].val < qs.length := (apOrder (fracs qs) qs.length)[j + k].2
    rw [List.getElem_drop]
    have hfp := fracs_get qs p hp
    have hfk := fracs_get qs _ hq
    have hfl := floor_le' (qs[(apOrder (fracs qs) qs.length)[j + k].val]'hq)
    simp only [decide_eq_true_eq, Fin.getElem_fin]
    rcases Nat.eq_zero_or_pos k with hk0 | hk0
    · subst hk0
      have : (apOrder (fracs qs) qs.length)[j + 0].val = p := by rw [← hat]; exact he
      simp only [this]
      rw [hw]; exact Rat.lt_irrefl
    · have hm := apAt_mono (fracs qs) qs.length j (j + k) (by omega) (by omega)
      rw [he, hat] at hm
      unfold apLt at hm
      rw [hfp, hfk] at hm
      grind
  have hs := List.countP_append (p := fun i : Fin qs.length => decide (((qs[i].floor : Int) : Rat) < qs[i])) (l₁ := (apOrder (fracs qs) qs.length).take j) (l₂ := (apOrder (fracs qs) qs.length).drop j)
  rw [List.take_append_drop, hz] at hs
  have ht := List.countP_le_length (p := fun i : Fin qs.length => decide (((qs[i].floor : Int) : Rat) < qs[i])) (l := (apOrder (fracs qs) qs.length).take j)
  rw [List.length_take] at ht
  omega

end Go.Proofs.YtgihpfkjpfanmaaGreat

/- UpliftEven's plain law, the end. -/
namespace Go.Proofs.YtgihpfkjpfanmaaGreat
open Go.RowKit

theorem apOut_length (qs : List Rat) : (apOut qs).length = qs.length := by rw [apOut_miss, apInc_length]; simp

open Classical in
theorem apOut_get (qs : List Rat) (T : Int) (h : qsum qs = (T : Rat)) (p : Nat) (hp : p < qs.length) : (apOut qs)[p]?.getD 0 = qs[p].floor + (if Up (fracs qs) qs.length (apMiss qs) p then 1 else 0) := by
  obtain ⟨-, h2⟩ := miss_eq qs T h
  have hc := List.countP_le_length (p := fun q : Rat => decide (((q.floor : Int) : Rat) < q)) (l := qs)
  rw [apOut_miss, apInc_get _ _ _ (by simp) _ (by omega) p hp]
  simp [hp]

theorem floor_mono {p q : Rat} (h : p ≤ q) : p.floor ≤ q.floor := by
  rw [Rat.le_floor_iff]; have := floor_le' p; grind

/-- Numbers in order get numbers in order. -/
theorem apOut_mono (qs : List Rat) (T : Int) (h : qsum qs = (T : Rat)) (i k : Nat) (hi : i < qs.length) (hk : k < qs.length) (hlt : qs[k] < qs[i]) : (apOut qs)[k]?.getD 0 ≤ (apOut qs)[i]?.getD 0 := by
  obtain ⟨-, h2⟩ := miss_eq qs T h
  have hc := List.countP_le_length (p := fun q : Rat => decide (((q.floor : Int) : Rat) < q)) (l := qs)
  have hf := floor_mono (Rat.le_of_lt hlt)
  rw [apOut_get qs T h i hi, apOut_get qs T h k hk]
  by_cases hu : Up (fracs qs) qs.length (apMiss qs) k
  · rw [if_pos hu]
    by_cases hv : Up (fracs qs) qs.length (apMiss qs) i
    · rw [if_pos hv]; omega
    · rw [if_neg hv]
      have hne : qs[k].floor ≠ qs[i].floor := by
        intro he
        refine hv (up_before (by omega) hi hu (Or.inl ?_))
        rw [fracs_get qs i hi, fracs_get qs k hk, he]
        grind
      omega
  · rw [if_neg hu]
    split <;> omega
theorem apOut_same (qs : List Rat) (T : Int) (h : qsum qs = (T : Rat)) (i k : Nat) (hi : i < qs.length) (hk : k < qs.length) (he : qs[k] = qs[i]) : (apOut qs)[k]?.getD 0 - (apOut qs)[i]?.getD 0 ≤ 1 := by
  rw [apOut_get qs T h i hi, apOut_get qs T h k hk, he]
  split <;> split <;> omega
theorem apOut_zero (qs : List Rat) (T : Int) (h : qsum qs = (T : Rat)) (i : Nat) (hi : i < qs.length) (he : qs[i] = 0) : (apOut qs)[i]?.getD 0 = 0 := by
  have hf : (0 : Rat).floor = 0 := Rat.floor_intCast 0
  have hw : ((qs[i].floor : Int) : Rat) = qs[i] := by rw [he, hf]; rfl
  rw [apOut_get qs T h i hi, if_neg (whole_not_up qs T h i hi hw), he, hf]; rfl

/-- The parts of T by the weights qs. -/
def shOut (T : Int) (qs : List Rat) : List Int := apOut (qs.map fun q => ((T : Int) : Rat) / qsum qs * q)

structure EvenLaw (T : Int) (qs : List Rat) : Prop where
  len : (shOut T qs).length = qs.length
  sum : isum (shOut T qs) = T
  zero : ∀ i (hi : i < qs.length), qs[i] = 0 → (shOut T qs)[i]?.getD 0 = 0
  same : ∀ i k (hi : i < qs.length) (hk : k < qs.length), qs[k] = qs[i] → (shOut T qs)[k]?.getD 0 - (shOut T qs)[i]?.getD 0 ≤ 1
  mono : ∀ i k (hi : i < qs.length) (hk : k < qs.length), qs[k] < qs[i] → (shOut T qs)[k]?.getD 0 ≤ (shOut T qs)[i]?.getD 0

theorem even_law (T : Int) (qs : List Rat) (hT : 0 ≤ T) (hp : ∀ x ∈ qs, 0 ≤ x) (hS : ¬ qsum qs = 0) : EvenLaw T qs := by
  have hs := parts_sum T qs hS
  have hS0 : 0 < qsum qs := by have := qsum_nonneg qs hp; grind
  have hl : (qs.map fun q => ((T : Int) : Rat) / qsum qs * q).length = qs.length := by simp
  have hg : ∀ i (hi : i < qs.length), (qs.map fun q => ((T : Int) : Rat) / qsum qs * q)[i]'(by rw [hl]; exact hi) = ((T : Int) : Rat) / qsum qs * qs[i] := by intro i hi; simp
  refine ⟨?_, apOut_sum _ T hs, ?_, ?_, ?_⟩
  · unfold shOut; rw [apOut_length, hl]
  · intro i hi he
    exact apOut_zero _ T hs i (by rw [hl]; exact hi) (by rw [hg i hi, he, Rat.mul_zero])
  · intro i k hi hk he
    exact apOut_same _ T hs i k (by rw [hl]; exact hi) (by rw [hl]; exact hk) (by rw [hg i hi, hg k hk, he])
  · intro i k hi hk he
    by_cases hT0 : T = 0
    · have hz : ∀ j (hj : j < qs.length), (shOut T qs)[j]?.getD 0 = 0 := by
        intro j hj
        exact apOut_zero _ T hs j (by rw [hl]; exact hj) (by rw [hg j hj, hT0]; simp [Rat.div_def])
      rw [hz i hi, hz k hk]; exact Int.le_refl _
    · refine apOut_mono _ T hs i k (by rw [hl]; exact hi) (by rw [hl]; exact hk) ?_
      rw [hg i hi, hg k hk]
      have h0 : 0 < ((T : Int) : Rat) / qsum qs := by
        rw [Rat.div_def]
        have h1 : (0 : Rat) < ((T : Int) : Rat) := Rat.intCast_lt_intCast.2 (show (0 : Int) < T by omega)
        exact Rat.mul_pos h1 (Rat.inv_pos.2 hS0)
      exact Rat.mul_lt_mul_of_pos_left he h0

end Go.Proofs.YtgihpfkjpfanmaaGreat

/- law41.awake's two shares, plainly. -/
namespace Go.Proofs.YtgihpfkjpfanmaaGreat
open Go.RowKit

theorem apAt_three (fs : List Rat) (f : Rat) (h : ∀ i, i < 3 → fs[i]?.getD 0 = f) : apAt fs 3 0 = 0 ∧ apAt fs 3 1 = 1 ∧ apAt fs 3 2 = 2 := by
  have hm : ∀ j k, j < k → k < 3 → apAt fs 3 j < apAt fs 3 k := by
    intro j k hj hk
    have h1 := apAt_mono fs 3 j k hj hk
    unfold apLt at h1
    rw [h _ (apAt_lt fs 3 j (by omega)), h _ (apAt_lt fs 3 k hk)] at h1
    rcases h1 with h1 | ⟨_, h1⟩
    · exact absurd h1 Rat.lt_irrefl
    · exact h1
  have a := hm 0 1 (by omega) (by omega)
  have b := hm 1 2 (by omega) (by omega)
  have c := apAt_lt fs 3 2 (by omega)
  omega

theorem floor_of {q : Rat} {z : Int} (h1 : (z : Rat) ≤ q) (h2 : q < (z : Rat) + 1) : q.floor = z := by
  have a := Rat.le_floor_iff.2 h1
  have b : ¬ (z + 1 ≤ q.floor) := by
    rw [Rat.le_floor_iff, Rat.not_le, Rat.intCast_add]; exact h2
  omega
theorem qsum_three (x : Rat) : qsum [x, x, x] = 3 * x := by
  simp only [qsum, List.foldl]; grind
theorem three_parts (T : Int) : ∃ x : Rat, 3 * x = (T : Rat) ∧ ([1, 1, 1] : List Rat).map (fun q => ((T : Int) : Rat) / qsum [1, 1, 1] * q) = [x, x, x] := by
  refine ⟨(T : Rat) / 3, by grind, ?_⟩
  have : qsum [1, 1, 1] = 3 := by rw [qsum_three]; grind
  simp [this, Rat.mul_one]

theorem three_out (x : Rat) (T z : Int) (hx : 3 * x = (T : Rat)) (h1 : (z : Rat) ≤ x) (h2 : x < (z : Rat) + 1) : apOut [x, x, x] = apInc (fracs [x, x, x]) 3 [z, z, z] (T - 3 * z).toNat ∧ apAt (fracs [x, x, x]) 3 0 = 0 ∧ apAt (fracs [x, x, x]) 3 1 = 1 := by
  have hf := floor_of h1 h2
  obtain ⟨h0, h1, h2⟩ := apAt_three (fracs [x, x, x]) (x - (x.floor : Int)) (by
    intro i hi
    rcases (show i = 0 ∨ i = 1 ∨ i = 2 by omega) with rfl | rfl | rfl <;> simp [fracs])
  refine ⟨?_, h0, h1⟩
  unfold apOut
  rw [qsum_three, hx, Rat.floor_intCast]
  simp only [List.length_cons, List.length_nil, Nat.reduceAdd, List.map_cons, List.map_nil, hf]
  rw [show isum [z, z, z] = 3 * z by simp [isum]; omega]

theorem shOut_ten : shOut 10 [1, 1, 1] = [4, 3, 3] := by
  obtain ⟨x, hx, he⟩ := three_parts 10
  unfold shOut
  rw [he]
  have e : ((10 : Int) : Rat) = 10 := rfl
  have e3 : ((3 : Int) : Rat) = 3 := rfl
  obtain ⟨h1, h2, h3⟩ := three_out x 10 3 hx (by grind) (by grind)
  rw [h1]
  simp [apInc, h2]
theorem shOut_minus_ten : shOut (-10) [1, 1, 1] = [-3, -3, -4] := by
  obtain ⟨x, hx, he⟩ := three_parts (-10)
  unfold shOut
  rw [he]
  have e : ((-10 : Int) : Rat) = -10 := rfl
  have e3 : ((-4 : Int) : Rat) = -4 := rfl
  obtain ⟨h1, h2, h3⟩ := three_out x (-10) (-4) hx (by grind) (by grind)
  rw [h1]
  simp [apInc, h2, h3]

end Go.Proofs.YtgihpfkjpfanmaaGreat

/- make.Mod. -/
namespace Go.Proofs.YtgihpfkjpfanmaaGreat
open Go.RowKit

/-- uint64(v) % n -/
def modU (v n : Int) : Int := (v % 18446744073709551616) % n

theorem make_Mod (w : World) (v n : Int) (hv1 : -9223372036854775808 ≤ v) (hv2 : v < 9223372036854775808) (hn : 0 < n) (hn2 : n < 1000000) :
    Calls Tryz.prog 22 #[.int .i64 v, .int .i64 n] w fun e w' => e = .returned (.int .i64 (modU v n)) ∧ w = w' := by
  go_enter Tryz.func22, Tryz.ntmps22
  go_wp2_with fail
  go_ret
  refine ⟨ret_int ?_, rfl⟩
  have hw : IntKind.u64.wrap v = v % 18446744073709551616 := by
    simp [IntKind.wrap, IntKind.signed, IntKind.bits]
  have h0 : 0 ≤ v % 18446744073709551616 := Int.emod_nonneg _ (by omega)
  rw [hw, Int.tmod_eq_emod_of_nonneg h0]
  have a := Int.emod_nonneg (v % 18446744073709551616) (show n ≠ 0 by omega)
  have b := Int.emod_lt_of_pos (v % 18446744073709551616) hn
  unfold modU
  generalize v % 18446744073709551616 % n = z at *
  unfold wrap64; omega

/-- A slice of int: its cells. -/
def IntsAt (w : World) (a : Option Addr) (l : List Int) : Prop := ∃ b o, a = some ⟨b, o, none⟩ ∧ ∀ i (hi : i < l.length), w.cell? ⟨b, o + i, none⟩ = some (.int .i64 l[i])

theorem IntsAt.ext {w w' : World} {a : Option Addr} {l : List Int} (h : IntsAt w a l) (hX : Ext w w') : IntsAt w' a l := by
  obtain ⟨b, o, rfl, hc⟩ := h
  exact ⟨b, o, rfl, fun i hi => (hX.cell (block_lt (hc i hi))).trans (hc i hi)⟩

/-- The same numbers: Ints says yes. -/
theorem r17_Ints_same (w : World) (a b : Option Addr) (c c' : Nat) (l : List Int) (hA : IntsAt w a l) (hB : IntsAt w b l) (hl : l.length < 1000000) :
    Calls Tryz.prog 88 #[.slice a l.length c, .slice b l.length c'] w fun e w' => e = .returned (.bool true) ∧ Ext w w' := by
  obtain ⟨b1, o1, rfl, hA⟩ := hA
  obtain ⟨b2, o2, rfl, hB⟩ := hB
  go_enter Tryz.func88, Tryz.ntmps88
  go_wp2_with fail
  go_loopw [5] (fun i wr => ∃ j : Nat, j ≤ l.length ∧ i = .int .i64 j ∧ Quiet w wr) (fun i _ => l.length - (intOf i).toNat)
  case atStart => exact ⟨0, Nat.zero_le _, rfl, Quiet.refl _⟩
  case round =>
    obtain ⟨j, hj, rfl, hq⟩ := hrel
    by_cases h0 : j < l.length
    · have hc := (hq.ext.cell (block_lt (hA j h0))).trans (hA j h0)
      have hc' := (hq.ext.cell (block_lt (hB j h0))).trans (hB j h0)
      have g1 : (j : Int) < (l.length : Int) := by omega
      have g2 : (0 : Int) ≤ (j : Int) := by omega
      go_wp2
      go_quiet (fail)
      go_wp2
      exact ⟨⟨j + 1, by omega, rfl, hq.drewN _⟩, by simp only [intOf]; omega⟩
    · have hj' : j = l.length := by omega
      subst hj'
      go_wp2
      go_ret
      exact ⟨rfl, hq.ext⟩

theorem r18_Ints_same (w : World) (a b : Option Addr) (c c' : Nat) (l : List Int) (hA : IntsAt w a l) (hB : IntsAt w b l) (hl : l.length < 1000000) :
    Calls Tryz.prog 36 #[.slice a l.length c, .slice b l.length c'] w fun e w' => e = .returned (.bool true) ∧ Ext w w' := by
  go_enter Tryz.func36, Tryz.ntmps36
  go_wp2_with fail
  refine (r17_Ints_same _ _ _ _ _ _ hA hB hl).mono ?_
  rintro e w1 ⟨rfl, hX⟩
  go_wp2_with fail
  go_ret
  exact ⟨rfl, hX⟩

end Go.Proofs.YtgihpfkjpfanmaaGreat

/- law41.awake. -/
namespace Go.Proofs.YtgihpfkjpfanmaaGreat
open Go.RowKit

theorem ones_rats (w : World) (a1 a2 a3 b1 b2 b3 : Option Addr) (c1 c2 c3 d1 d2 d3 b : Nat) (T : TypeId) (h1 : Raw w a1 (len 1) c1 1) (h2 : Raw w a2 (len 1) c2 1) (h3 : Raw w a3 (len 1) c3 1) (k1 : Raw w b1 (len 1) d1 1) (k2 : Raw w b2 (len 1) d2 1) (k3 : Raw w b3 (len 1) d3 1)
    (hA : Arr w b T [.bool false, .slice a1 (len 1) c1, .slice b1 (len 1) d1, .bool false, .slice a2 (len 1) c2, .slice b2 (len 1) d2, .bool false, .slice a3 (len 1) c3, .slice b3 (len 1) d3]) :
    Rats w (some ⟨b, 0, none⟩) 3 [⟨false, a1, len 1, c1, b1, len 1, d1⟩, ⟨false, a2, len 1, c2, b2, len 1, d2⟩, ⟨false, a3, len 1, c3, b3, len 1, d3⟩] [1, 1, 1] 2 := by
  have e : (1 : Rat) = mkRat (sgn false 1) 1 := by decide
  have l1 : len 1 ≤ 2 := by decide
  refine ⟨rfl, by simp, by decide, by simp, ?_, ?_⟩
  · intro i hi
    have hi' : i < 3 := hi
    rcases (show i = 0 ∨ i = 1 ∨ i = 2 by omega) with rfl | rfl | rfl <;> exact ⟨b, 0, rfl, hA.cell _, hA.cell _, hA.cell _⟩
  · intro i hi
    have hi' : i < 3 := hi
    rcases (show i = 0 ∨ i = 1 ∨ i = 2 by omega) with rfl | rfl | rfl
    · exact ⟨1, 1, h1, k1, e, l1, l1⟩
    · exact ⟨1, 1, h2, k2, e, l1, l1⟩
    · exact ⟨1, 1, h3, k3, e, l1, l1⟩

theorem arr_ints {w : World} {b : Nat} {T : TypeId} {l : List Int} (h : Arr w b T (i64s l)) : IntsAt w (some ⟨b, 0, none⟩) l :=
  ⟨b, 0, rfl, fun i hi => by rw [h.cell, Nat.zero_add]; exact i64s_get l i hi⟩

set_option maxHeartbeats 4000000 in
theorem law41_awake (w : World) : Calls Tryz.prog 47 #[] w fun e w' => e = .returned (.bool true) ∧ Ext w w' := by
  go_enter Tryz.func47, Tryz.ntmps47
  go_wp2_with fail
  refine (r3_FromInt _ 1 (by omega) (by omega)).mono ?_
  rintro e w1 ⟨a1, c1, b1, d1, rfl, hR1, hF1, hS1, hG1, hX1⟩
  go_wp2_with fail
  refine (r3_FromInt _ 1 (by omega) (by omega)).mono ?_
  rintro e w2 ⟨a2, c2, b2, d2, rfl, hR2, hF2, hS2, hG2, hX2⟩
  go_wp2_with fail
  refine (r3_FromInt _ 1 (by omega) (by omega)).mono ?_
  rintro e w3 ⟨a3, c3, b3, d3, rfl, hR3, hF3, hS3, hG3, hX3⟩
  go_wp2_with fail
  have hAl : Arr (w3.alloc (.cells #[.bool false, .slice a1 (len 1) c1, .slice b1 (len 1) d1, .bool false, .slice a2 (len 1) c2, .slice b2 (len 1) d2, .bool false, .slice a3 (len 1) c3, .slice b3 (len 1) d3] 55)) w3.heap.size 55 [.bool false, .slice a1 (len 1) c1, .slice b1 (len 1) d1, .bool false, .slice a2 (len 1) c2, .slice b2 (len 1) d2, .bool false, .slice a3 (len 1) c3, .slice b3 (len 1) d3] := by
    exact Arr.alloc _ _ _
  have x3 : Ext w3 (w3.alloc (.cells #[.bool false, .slice a1 (len 1) c1, .slice b1 (len 1) d1, .bool false, .slice a2 (len 1) c2, .slice b2 (len 1) d2, .bool false, .slice a3 (len 1) c3, .slice b3 (len 1) d3] 55)) := (Ext.refl w3).alloc _
  generalize hV : w3.alloc (.cells #[.bool false, .slice a1 (len 1) c1, .slice b1 (len 1) d1, .bool false, .slice a2 (len 1) c2, .slice b2 (len 1) d2, .bool false, .slice a3 (len 1) c3, .slice b3 (len 1) d3] 55) = V at *
  have hRs := ones_rats V a1 a2 a3 b1 b2 b3 c1 c2 c3 d1 d2 d3 _ _ (hR1.ext ((hX2.trans hX3).trans x3)) (hR2.ext (hX3.trans x3)) (hR3.ext x3) (hS1.ext ((hX2.trans hX3).trans x3)) (hS2.ext (hX3.trans x3)) (hS3.ext x3) hAl
  have hp : ∀ i (hi : i < ([1, 1, 1] : List Rat).length), 0 ≤ ([1, 1, 1] : List Rat)[i] := by
    intro i hi
    have hi' : i < 3 := hi
    rcases (show i = 0 ∨ i = 1 ∨ i = 2 by omega) with rfl | rfl | rfl <;> exact (show (0 : Rat) ≤ 1 by decide)
  have hne : ¬ qsum [1, 1, 1] = 0 := by rw [qsum_three]; grind
  refine (share_ok V 10 _ _ _ _ _ hRs (by simp) (by decide) (by decide) (by decide) (fun i hi => hp i hi) (by simp) hne).mono ?_
  rw [show apOut _ = _ from shOut_ten]
  rintro e w4 ⟨p4, rfl, hp4, hA4, hX4⟩
  go_wp2_with fail
  refine (share_ok w4 (-10) _ _ _ _ _ (hRs.ext hX4) (by simp) (by decide) (by decide) (by decide) (fun i hi => hp i hi) (by simp) hne).mono ?_
  rw [show apOut _ = _ from shOut_minus_ten]
  rintro e w5 ⟨p5, rfl, hp5, hA5, hX5⟩
  go_wp2_with fail
  have x5 := (Ext.refl w5).alloc (.cells #[.int .i64 4, .int .i64 3, .int .i64 3] 3)
  refine (r18_Ints_same _ _ _ _ _ [4, 3, 3] (arr_ints (hA4.ext (hX5.trans x5))) (arr_ints (Arr.alloc w5 3 (i64s [4, 3, 3]))) (by decide)).mono ?_
  rintro e w6 ⟨rfl, hX6⟩
  go_wp2_with fail
  have x6 := (Ext.refl w6).alloc (.cells #[.int .i64 (-3), .int .i64 (-3), .int .i64 (-4)] 3)
  refine (r18_Ints_same _ _ _ _ _ [-3, -3, -4] (arr_ints (hA5.ext ((x5.trans hX6).trans x6))) (arr_ints (Arr.alloc w6 3 (i64s [-3, -3, -4]))) (by decide)).mono ?_
  rintro e w7 ⟨rfl, hX7⟩
  go_wp2_with fail
  go_ret
  exact ⟨rfl, (((((((hX1.trans hX2).trans hX3).trans x3).trans hX4).trans hX5).trans x5).trans hX6).trans (x6.trans hX7)⟩

end Go.Proofs.YtgihpfkjpfanmaaGreat

/- append, with the block that the slice lies in afterwards. -/
namespace Go.Proofs.YtgihpfkjpfanmaaGreat
open Go.RowKit

section
variable {P : Program} (w : World)

theorem run_append_at (base : Nat) (t ty e : TypeId) (i : TypeInfo) (z : Value) (size bytes : Nat) (ht : P.underlying t = some (.slice e)) (hi : P.info? e = some i) (hz : i.zero = some z)
    (hsize : i.size = size) (hby : i.bytes = bytes) (hzs : z.cells.size = size) (hsz : 0 < size)
    (v : Value) (n : Nat) (xs : List Value) (hown : w.ownsRow base e size v n xs)
    (a : Addr) (m c : Nat) (news : List Value) (hl : news.length = m * size) (hnews : ∀ j u, news[j]? = some u → w.cell? (a.add j) = some u) (h1 : ∀ u ∈ news, u.oneCell' = true)
    (h63 : n + m ≤ maxLen) (hbytes : (n + m) * bytes ≤ 140737488355328) (hbase : base ≤ w.heap.size) :
    ∃ v' w', (Builtin.append_ #[t, t] ty #[v, .slice (some a) m c]).run P w = .ok v' w' ∧ w'.ownsRow base e size v' (n + m) (xs ++ news) ∧ w.grownBy w' v.ownBlock ∧ w.drawn ≤ w'.drawn ∧ (v'.ownBlock = v.ownBlock ∨ ∃ g, v'.ownBlock = some g ∧ w.heap.size ≤ g) := by
  obtain ⟨v', w', hr, h2, h3, _⟩ := run_append_own (P := P) w base t ty e i z size bytes ht hi hz hsize hby hzs hsz v n xs hown a m c news hl hnews h1 h63 hbytes hbase
  refine ⟨v', w', hr, h2, h3, ?_⟩
  subst hsize
  subst hby
  have hsmall : n + m ≤ 9223372036854775807 := by simp only [maxLen] at h63; omega
  rcases hown.2 with ⟨rfl, rfl⟩ | ⟨g, cap, cur, rfl, hbg, hg, hnc, hcm, hcs, htake⟩
  · have hx : xs = [] := List.eq_nil_of_length_eq_zero (by simpa using hown.1)
    subst hx
    by_cases hm : m = 0
    · subst hm
      have hn : news = [] := List.eq_nil_of_length_eq_zero (by simpa using hl)
      subst hn
      have hr' : (Builtin.append_ #[t, t] ty #[.slice none 0 0, .slice (some a) 0 c]).run P w = .ok (.slice none 0 0) w := by
        simp [Builtin.append_, run_underlying ht, sizeOf, typeInfo, hi, Builtin.lenOf, Builtin.firstCells, loadCells, loadCellsFrom]
      rw [hr'] at hr; cases hr; exact ⟨Nat.le_refl _, .inl rfl⟩
    · have hr' := run_append_nil (P := P) w t ty e i z ht hi hz a m c news hl hnews (by omega) (by omega) (by have hb := hbytes; simp only [Nat.zero_add] at hb; omega)
      rw [hr'] at hr; cases hr; exact ⟨Nat.le_succ _, .inr ⟨_, rfl, Nat.le_refl _⟩⟩
  · by_cases hroom : n + m ≤ cap
    · have hfit : n * i.size + news.length ≤ cur.size := by rw [hl, hcs, ← Nat.add_mul]; exact Nat.mul_le_mul_right _ hroom
      have hr' := run_append_room (P := P) w t ty e i ht hi g n cap cur hg a m c news hl hnews h1 hroom hfit
      rw [hr'] at hr; cases hr; exact ⟨Nat.le_refl _, .inl rfl⟩
    · have holds : ∀ j u, xs[j]? = some u → w.cell? ((⟨g, 0, none⟩ : Addr).add j) = some u := hown.cells (g := g) rfl
      have hr' := run_append_grow (P := P) w t ty e i z ht hi hz ⟨g, 0, none⟩ n cap xs hown.1 holds a m c news hl hnews (by omega) (by omega) (growslice_fits (by omega) hbytes)
      rw [hr'] at hr; cases hr; exact ⟨Nat.le_succ _, .inr ⟨_, rfl, Nat.le_refl _⟩⟩

/-- 'append(s, x...)' where s is nil or the call's own: what lay before the call's own blocks stays. -/
theorem wpList_append_at {ops : Array Oper} {rest : List Oper} {o : Oper} {a : Act} {Q : Exit → Act → World → Prop} (hgd : o.guard = none) (s x : Operand) (t : TypeId)
    (ho : o.op = .call { callee := .builtin .append, args := #[s, x], argTypes := #[t, t] })
    (base : Nat) (e : TypeId) (z : Value) (size bytes : Nat) (ht : P.underlying t = some (.slice e)) (hinfo : (P.info? e).map (fun i => (i.zero, i.size, i.bytes)) = some (some z, size, bytes)) (hzs : z.cells.size = size) (hsz : 0 < size)
    (v : Value) (n : Nat) (xs : List Value) (hs : a.eval s = v) (hown : w.ownsRow base e size v n xs)
    (xa : Option Addr) (m c : Nat) (news : List Value) (hx : a.eval x = .slice xa m c) (hl : news.length = m * size) (hnews : 0 < m → ∃ ad, xa = some ad ∧ ∀ j u, news[j]? = some u → w.cell? (ad.add j) = some u) (h1 : ∀ u ∈ news, u.oneCell' = true)
    (hnil : xa = none → m = 0 ∧ c = 0)
    (h63 : n + m ≤ 1200000000000) (hbytes : bytes ≤ 100) (hbase : base ≤ w.heap.size)
    (h : ∀ v' w', Hid (w'.ownsRow base e size v' (n + m) (xs ++ news)) → Hid (∀ a0, Ext a0 w → a0.heap.size ≤ base → Ext a0 w') → Hid (∀ k, k < w.heap.size → some k ≠ v.ownBlock → w'.heap[k]? = w.heap[k]?) → Hid (w.heap.size ≤ w'.heap.size) → Hid (v'.ownBlock = v.ownBlock ∨ ∃ g, v'.ownBlock = some g ∧ w.heap.size ≤ g) → wpList P ops Q rest (a.put o.dst v') w') : wpList P ops Q (o :: rest) a w := by
  obtain ⟨i, hi, hz, hsize, hby⟩ := info_parts hinfo
  have hlt := hown.lt
  have hb : (n + m) * bytes ≤ 140737488355328 := Nat.le_trans (Nat.mul_le_mul h63 hbytes) (by decide)
  have hm63 : n + m ≤ maxLen := by unfold maxLen; omega
  cases xa with
  | none =>
    obtain ⟨rfl, rfl⟩ := hnil rfl
    have hn : news = [] := List.eq_nil_of_length_eq_zero (by simpa using hl)
    subst hn
    refine wpList_append_own_none hgd s x t ho base e i size ht hi v n xs hs hown hx ?_
    exact h v w (Lib.hid (by simpa using hown)) (fun _ h _ => h) (fun _ _ _ => rfl) (Nat.le_refl _) (.inl rfl)
  | some ad =>
    have hnews' : ∀ j u, news[j]? = some u → w.cell? (ad.add j) = some u := by
      intro j u hu
      by_cases hm : 0 < m
      · obtain ⟨ad', e', hh⟩ := hnews hm; cases e'; exact hh j u hu
      · have : news = [] := List.eq_nil_of_length_eq_zero (by rw [hl]; have : m = 0 := by omega
                                                              simp [this])
        rw [this] at hu; simp at hu
    refine wpList_plain hgd fun K hK => ?_
    obtain ⟨v', w', hr, h2, h3, h4, h5⟩ := run_append_at (P := P) w base t o.type e i z size bytes ht hi hz hsize hby hzs hsz v n xs hown ad m c news hl hnews' h1 hm63 hb hbase
    unfold Oper.wp execOp
    simp only [ho, resolve, invoke, builtin, Sem.run_bind, Sem.run_pure, Result.andThen_ok, List.map_toArray, List.map_cons, List.map_nil, hs, hx, hr]
    refine hK _ _ (h v' w' h2 (fun a0 ha hb0 => ⟨ha.below.trans ⟨h3.os, h3.tape, h3.output, h3.size, fun k hk => h3.block k (by have := ha.size; omega) (fun e' => by have := hlt k e'.symm; omega)⟩, Nat.le_trans ha.drawn h4⟩) h3.block h3.size h5)
end


end Go.Proofs.YtgihpfkjpfanmaaGreat

/- UpliftEven: the weights as they are made. -/
namespace Go.Proofs.YtgihpfkjpfanmaaGreat
open Go.RowKit

/-- A slice of int that came in. -/
structure IntIn (w : World) (a : Option Addr) (c : Nat) (xs : List Int) : Prop where
  le : xs.length ≤ c
  cap : c ≤ 9223372036854775807
  cell : ∀ i (h : i < xs.length), ∃ b o, a = some ⟨b, o, none⟩ ∧ w.cell? ⟨b, o + i, none⟩ = some (.int .i64 xs[i])
  rng : ∀ i (h : i < xs.length), -9223372036854775808 ≤ xs[i] ∧ xs[i] < 9223372036854775808

theorem IntIn.ext {w w' : World} {a : Option Addr} {c : Nat} {xs : List Int} (h : IntIn w a c xs) (e : Ext w w') : IntIn w' a c xs :=
  ⟨h.le, h.cap, fun i hi => by obtain ⟨b, o, ha, hc⟩ := h.cell i hi; exact ⟨b, o, ha, cell_ext e hc⟩, h.rng⟩

def evQ (x : Int) : Rat := mkRat (modU x 7) 2

theorem modU_range (v n : Int) (hn : 0 < n) : 0 ≤ modU v n ∧ modU v n < n :=
  ⟨Int.emod_nonneg _ (by omega), Int.emod_lt_of_pos _ hn⟩

/-- The limbs of r do not lie in the block row. -/
def Off (r : RVal) (row : Option Nat) : Prop := (0 < r.k → ∀ x, r.a = some x → some x.block ≠ row) ∧ (0 < r.j → ∀ x, r.b = some x → some x.block ≠ row)

/-- A slice of rational numbers that the call itself makes by append: v lies in blocks from w.heap.size on. -/
structure RatRow (w wr : World) (v : Value) (rs : List RVal) (qs : List Rat) (L : Nat) : Prop where
  len : qs.length = rs.length
  own : wr.ownsRow w.heap.size 55 3 v rs.length (ratCells rs)
  num : ∀ k (hk : k < rs.length), IsRat wr rs[k] (qs[k]'(by omega)) L
  off : ∀ k (hk : k < rs.length), Off rs[k] v.ownBlock
  ext : Ext w wr

theorem ownsRow_ext {w w' : World} {base : Nat} {e : TypeId} {s : Nat} {v : Value} {n : Nat} {xs : List Value} (h : w.ownsRow base e s v n xs) (hX : Ext w w') : w'.ownsRow base e s v n xs := by
  obtain ⟨h1, h2⟩ := h
  refine ⟨h1, ?_⟩
  rcases h2 with h2 | ⟨g, cap, cur, hv, hb, hg, hr⟩
  · exact .inl h2
  · refine .inr ⟨g, cap, cur, hv, hb, ?_, hr⟩
    rw [hX.below.block g (Array.getElem?_eq_some_iff.1 hg).1]; exact hg

theorem RatRow.extend {w wr wr' : World} {v : Value} {rs : List RVal} {qs : List Rat} {L : Nat} (h : RatRow w wr v rs qs L) (e : Ext wr wr') : RatRow w wr' v rs qs L :=
  ⟨h.len, ownsRow_ext h.own e, fun k hk => (h.num k hk).ext e, h.off, h.ext.trans e⟩

theorem RatRow.start {w wr : World} (h : Ext w wr) (L : Nat) : RatRow w wr (.slice none 0 0) [] [] L :=
  ⟨rfl, ⟨rfl, .inl ⟨rfl, rfl⟩⟩, fun k hk => absurd hk (Nat.not_lt_zero _), fun k hk => absurd hk (Nat.not_lt_zero _), h⟩

theorem Raw.lt {w : World} {a : Option Addr} {k c n : Nat} (h : Raw w a k c n) (hk : 0 < k) : ∀ x, a = some x → x.block < w.heap.size := by
  intro x hx
  obtain ⟨l, e1, e2, e3⟩ := h
  obtain ⟨b', o, ha, hc⟩ := e3.cell 0 (by omega)
  have := block_lt hc
  rw [hx] at ha; cases ha
  exact this

/-- A number whose limbs do not lie in the block written stays. -/
theorem IsRat.keep {w w' : World} {r : RVal} {q : Rat} {L : Nat} {row : Option Nat} (h : IsRat w r q L) (hb : ∀ k, k < w.heap.size → some k ≠ row → w'.heap[k]? = w.heap[k]?) (ho : Off r row) : IsRat w' r q L := by
  have key : ∀ {a : Option Addr} {k c n : Nat}, Raw w a k c n → (0 < k → ∀ x, a = some x → some x.block ≠ row) → Raw w' a k c n := by
    intro a k c n hr ho
    obtain ⟨l, e1, e2, e3⟩ := hr
    refine ⟨l, e1, e2, e3.le, e3.cap, e3.short, e3.nul, e3.small, fun i hi => ?_⟩
    obtain ⟨b', o, ha, hc⟩ := e3.cell i hi
    refine ⟨b', o, ha, ?_⟩
    have hlt := block_lt hc
    unfold World.cell? at *
    rw [hb _ hlt (ho (by omega) ⟨b', o, none⟩ ha)]; exact hc
  obtain ⟨n, m, g1, g2, g3⟩ := h
  exact ⟨n, m, key g1 ho.1, key g2 ho.2, g3⟩

/-- The block that the slice lies in after an append. -/
theorem Off.next {w : World} {r : RVal} {q : Rat} {L : Nat} {v v' : Value} (ho : Off r v.ownBlock) (h : IsRat w r q L) (hv : v'.ownBlock = v.ownBlock ∨ ∃ g, v'.ownBlock = some g ∧ w.heap.size ≤ g) : Off r v'.ownBlock := by
  obtain ⟨n, m, g1, g2, g3⟩ := h
  rcases hv with hv | ⟨g, hg, hs⟩
  · rw [hv]; exact ho
  · rw [hg]
    constructor
    · intro hk x hx e; cases e; have := g1.lt hk x hx; omega
    · intro hk x hx e; cases e; have := g2.lt hk x hx; omega

theorem RatRow.snoc {w wr w' : World} {v v' : Value} {rs : List RVal} {qs : List Rat} {L : Nat} {r : RVal} {q : Rat} (h : RatRow w wr v rs qs L) (hr : IsRat wr r q L) (hro : Off r v.ownBlock)
    (ho : w'.ownsRow w.heap.size 55 3 v' (rs.length + 1) (ratCells rs ++ r.cells)) (hX : Ext w w') (hb : ∀ k, k < wr.heap.size → some k ≠ v.ownBlock → w'.heap[k]? = wr.heap[k]?)
    (hv : v'.ownBlock = v.ownBlock ∨ ∃ g, v'.ownBlock = some g ∧ wr.heap.size ≤ g) : RatRow w w' v' (rs ++ [r]) (qs ++ [q]) L := by
  have hl := h.len
  refine ⟨by simp [hl], by rw [ratCells_snoc, List.length_append]; exact ho, ?_, ?_, hX⟩
  · intro k hk
    rw [List.length_append, List.length_singleton] at hk
    by_cases hk' : k < rs.length
    · rw [List.getElem_append_left hk', List.getElem_append_left (by omega)]
      exact (h.num k hk').keep hb (h.off k hk')
    · obtain rfl : k = rs.length := by omega
      rw [List.getElem_append_right (Nat.le_refl _), List.getElem_append_right (by omega)]
      simp only [hl, Nat.sub_self, List.getElem_singleton]
      exact hr.keep hb hro
  · intro k hk
    rw [List.length_append, List.length_singleton] at hk
    by_cases hk' : k < rs.length
    · rw [List.getElem_append_left hk']
      exact (h.off k hk').next (h.num k hk') hv
    · obtain rfl : k = rs.length := by omega
      rw [List.getElem_append_right (Nat.le_refl _)]
      simp only [Nat.sub_self, List.getElem_singleton]
      exact hro.next hr hv

/-- What r3_Of returns does not lie in a block that was there before. -/
theorem off_fresh {w : World} {base : Nat} {e : TypeId} {s : Nat} {v : Value} {n : Nat} {ys : List Value} (h : w.ownsRow base e s v n ys) {r : RVal} (h1 : Fr w.heap.size r.a) (h2 : Fr w.heap.size r.b) : Off r v.ownBlock := by
  have hlt := h.lt
  constructor
  · intro _ x hx e
    have := hlt x.block e.symm
    have := h1 x hx
    omega
  · intro _ x hx e
    have := hlt x.block e.symm
    have := h2 x hx
    omega

/-- The whole list. -/
theorem RatRow.rats {w wr : World} {v : Value} {rs : List RVal} {qs : List Rat} {L : Nat} (h : RatRow w wr v rs qs L) (hs : rs.length ≤ 1000000) : ∃ a c, v = .slice a rs.length c ∧ Rats wr a c rs qs L := by
  obtain ⟨h1, h2⟩ := h.own
  have hl := h.len
  rcases h2 with ⟨rfl, h0⟩ | ⟨g, cap, cur, rfl, hb, hg, hn, hcap, hcs, htake⟩
  · refine ⟨none, 0, by rw [h0], hl, by omega, by omega, by omega, fun i hi => by omega, h.num⟩
  · refine ⟨some ⟨g, 0, none⟩, cap, rfl, hl, by omega, by unfold maxLen at hcap; omega, by omega, ?_, h.num⟩
    intro i hi
    have hc : ∀ k, k < 3 → wr.cell? ⟨g, 0 + i * 3 + k, none⟩ = (rs[i].cells)[k]? := by
      intro k hk
      have h3 : (cur.toList.take (rs.length * 3))[i * 3 + k]? = (ratCells rs)[i * 3 + k]? := by rw [htake]
      rw [ratCells_get rs i k hi hk, List.getElem?_take, if_pos (by omega)] at h3
      simp only [World.cell?, hg]
      rw [Nat.zero_add]
      simpa using h3
    exact ⟨g, 0, rfl, hc 0 (by omega), hc 1 (by omega), hc 2 (by omega)⟩

end Go.Proofs.YtgihpfkjpfanmaaGreat

/- UpliftEven: plain facts. -/
namespace Go.Proofs.YtgihpfkjpfanmaaGreat
open Go.RowKit

theorem evQ_two (x : Int) : 2 * evQ x = ((modU x 7 : Int) : Rat) := by
  unfold evQ
  rw [Rat.mkRat_eq_div]
  have : ((2 : Nat) : Rat) = 2 := rfl
  rw [this]; grind
/-- The sum of the doubled weights. -/
def evN (xs : List Int) : Int := isum (xs.map fun x => modU x 7)
theorem evQ_sum (xs : List Int) : 2 * qsum (xs.map evQ) = ((evN xs : Int) : Rat) := by
  unfold evN
  induction xs with
  | nil => simp [qsum, isum]
  | cons a l ih =>
    rw [List.map_cons, List.map_cons, qsum_cons, isum_cons, Rat.intCast_add, ← ih, ← evQ_two]; grind
theorem evQ_nonneg (x : Int) : 0 ≤ evQ x := by
  have h := evQ_two x
  have h1 : (0 : Rat) ≤ ((modU x 7 : Int) : Rat) := Rat.intCast_le_intCast.2 (show (0 : Int) ≤ _ from (modU_range x 7 (by omega)).1)
  grind
theorem evQ_zero {x : Int} (h : modU x 7 = 0) : evQ x = 0 := by
  have h1 := evQ_two x
  rw [h] at h1
  have : ((0 : Int) : Rat) = 0 := rfl
  grind
theorem evQ_eq {x y : Int} (h : modU x 7 = modU y 7) : evQ y = evQ x := by unfold evQ; rw [h]
theorem evQ_lt {x y : Int} (h : modU y 7 < modU x 7) : evQ y < evQ x := by
  have h1 := evQ_two x
  have h2 := evQ_two y
  have h3 := Rat.intCast_lt_intCast.2 h
  grind
theorem evN_zero {xs : List Int} : evN xs = 0 ↔ qsum (xs.map evQ) = 0 := by
  have h := evQ_sum xs
  constructor
  · intro e
    rw [e] at h
    have : ((0 : Int) : Rat) = 0 := rfl
    grind
  · intro e
    rw [e] at h
    have h2 : ((evN xs : Int) : Rat) = ((0 : Int) : Rat) := by
      have : ((0 : Int) : Rat) = 0 := rfl
      grind
    exact Rat.intCast_inj.1 h2
theorem evN_take (xs : List Int) (j : Nat) (h : j < xs.length) : evN (xs.take (j + 1)) = evN (xs.take j) + modU xs[j] 7 := by
  unfold evN isum
  rw [List.take_succ_eq_append_getElem h, List.map_append, List.sum_append]; simp
theorem evN_bound (xs : List Int) : 0 ≤ evN xs ∧ evN xs ≤ 7 * xs.length := by
  unfold evN
  induction xs with
  | nil => simp [isum]
  | cons a l ih =>
    have := modU_range a 7 (by omega)
    rw [List.map_cons, isum_cons, List.length_cons]; omega

/-- The parts are small. -/
theorem shOut_bound (T : Int) (qs : List Rat) (hT1 : -281474976710656 ≤ T) (hT2 : T ≤ 281474976710656) (hp : ∀ x ∈ qs, 0 ≤ x) (hS : ¬ qsum qs = 0) (i : Nat) (hi : i < qs.length) : -281474976710656 ≤ (shOut T qs)[i]?.getD 0 ∧ (shOut T qs)[i]?.getD 0 ≤ 281474976710657 := by
  have hok := part_ok T (qsum qs) qs[i] hT1 hT2 (hp _ (List.getElem_mem hi)) (le_qsum qs hp _ (List.getElem_mem hi)) hS
  have hf := apOk_floor hok
  have hl : i < (qs.map fun q => ((T : Int) : Rat) / qsum qs * q).length := by simpa using hi
  have hg := apOut_get (qs.map fun q => ((T : Int) : Rat) / qsum qs * q) T (parts_sum T qs hS) i hl
  unfold shOut
  rw [hg, List.getElem_map]
  split <;> omega

theorem isum_take_bound (l : List Int) (M : Int) (h0 : 0 ≤ M) (h : ∀ i, i < l.length → -M ≤ l[i]?.getD 0 ∧ l[i]?.getD 0 ≤ M) (j : Nat) (hj : j ≤ l.length) (hl : l.length ≤ 40) : -(40 * M) ≤ isum (l.take j) ∧ isum (l.take j) ≤ 40 * M := by
  have h1 := isum_bound (l.take j) M (by
    intro x hx
    obtain ⟨i, hi, rfl⟩ := List.getElem_of_mem hx
    rw [List.length_take] at hi
    have := h i (by omega)
    rw [List.getElem?_eq_getElem (by omega)] at this
    simpa using this)
  have h2 : ((l.take j).length : Int) * M ≤ 40 * M := Int.mul_le_mul_of_nonneg_right (by rw [List.length_take]; omega) h0
  omega
theorem isum_take_succ (l : List Int) (j : Nat) (h : j < l.length) : isum (l.take (j + 1)) = isum (l.take j) + l[j] := by
  unfold isum
  rw [List.take_succ_eq_append_getElem h, List.sum_append]; simp

end Go.Proofs.YtgihpfkjpfanmaaGreat

/- UpliftEven's walk. -/
namespace Go.Proofs.YtgihpfkjpfanmaaGreat
open Go.RowKit

theorem quiet_left {P : Program} {f : FuncId} {args : Array Value} {w : World} {n : Nat} {v : Value}
    (h : Calls P f args (w.drewN n) fun e w' => e = .returned v ∧ w.drewN n = w') : Calls P f args (w.drewN n) fun e w'' => e = .returned v ∧ ∃ m, w'' = w.drewN m :=
  h.mono fun _ _ ⟨he, hm⟩ => ⟨he, n, hm.symm⟩

/-- The state at the head of the first loop. -/
def EvLoop (w : World) (xs : List Int) (j : Nat) (v : Value) (wr : World) : Prop := j ≤ xs.length ∧ ∃ rs : List RVal, rs.length = j ∧ RatRow w wr v rs ((xs.take j).map evQ) 2

theorem IntIn.at {w : World} {a : Option Addr} {c : Nat} {xs : List Int} (h : IntIn w a c xs) (h0 : 0 < xs.length) : ∃ b o, a = some ⟨b, o, none⟩ := by
  obtain ⟨b, o, ha, _⟩ := h.cell 0 h0; exact ⟨b, o, ha⟩

theorem len_evQ (x : Int) : rsz (evQ x) ≤ 2 := by
  have h := rsz_mkRat (modU x 7) 2
  have hm := modU_range x 7 (by omega)
  have h1 : len (modU x 7).natAbs ≤ 2 := len_natAbs_i64 (by omega) (by omega)
  have h2 : len 2 ≤ 2 := by decide
  unfold evQ
  omega

theorem even_of (w : World) (x : Int) : Calls Tryz.prog 39 #[.int .i64 (modU x 7), .int .i64 2] w (NewRat (evQ x) w) := by
  have hm := modU_range x 7 (by omega)
  exact r3_Of w (modU x 7) 2 (by omega) (by omega) (by omega)

theorem cells_new (w : World) (T : TypeId) (vs : List Value) : ∀ j u, vs[j]? = some u → (w.alloc (.cells vs.toArray T)).cell? (Addr.add ⟨w.heap.size, 0, none⟩ j) = some u := by
  intro j u hu
  rw [show (Addr.add ⟨w.heap.size, 0, none⟩ j) = ⟨w.heap.size, 0 + j, none⟩ from by unfold Addr.add; split <;> simp_all, Nat.zero_add, (Arr.alloc w T vs).cell]
  exact hu
theorem ratVals_one (r : RVal) : ∀ u ∈ r.cells, u.oneCell' = true := by
  intro u hu
  simp only [RVal.cells, List.mem_cons, List.not_mem_nil, or_false] at hu
  rcases hu with rfl | rfl | rfl <;> rfl

/-- What the loops ask of the parts. -/
def EvenPlain (xs out : List Int) : Prop :=
  (∀ i (hi : i < xs.length), modU xs[i] 7 = 0 → out[i]?.getD 0 = 0) ∧ (∀ i k (hi : i < xs.length) (hk : k < xs.length), modU xs[i] 7 = modU xs[k] 7 → out[i]?.getD 0 - out[k]?.getD 0 ≤ 1) ∧
  (∀ i k (hi : i < xs.length) (hk : k < xs.length), modU xs[k] 7 < modU xs[i] 7 → out[k]?.getD 0 ≤ out[i]?.getD 0)
theorem even_plain {T : Int} {xs : List Int} (h : EvenLaw T (xs.map evQ)) : EvenPlain xs (shOut T (xs.map evQ)) := by
  refine ⟨fun i hi e => h.zero i (by simpa using hi) ?_, fun i k hi hk e => h.same k i (by simpa using hk) (by simpa using hi) ?_, fun i k hi hk e => h.mono i k (by simpa using hi) (by simpa using hk) ?_⟩
  · rw [List.getElem_map]; exact evQ_zero e
  · rw [List.getElem_map, List.getElem_map]; exact evQ_eq e.symm
  · rw [List.getElem_map, List.getElem_map]; exact evQ_lt e

theorem law41_long (w : World) (T : Int) (a : Option Addr) (k c : Nat) (hk : 40 < k) (hs : k ≤ 9223372036854775807) :
    Calls Tryz.prog 10 #[.int .i64 T, .slice a k c] w fun e w' => e = .returned (.bool true) ∧ Ext w w' := by
  go_enter Tryz.func10, Tryz.ntmps10
  go_wp2_with fail
  go_ret
  exact ⟨rfl, Ext.refl _⟩

set_option maxHeartbeats 4000000 in
set_option maxRecDepth 100000 in
theorem law41_even (w : World) (T0 : Int) (a : Option Addr) (c : Nat) (xs : List Int) (h : IntIn w a c xs) (hT1 : -9223372036854775808 ≤ T0) (hT2 : T0 < 9223372036854775808) (hs : xs.length ≤ 40) :
    Calls Tryz.prog 10 #[.int .i64 T0, .slice a xs.length c] w fun e w' => e = .returned (.bool true) ∧ Ext w w' := by
  have hle := h.le
  have hcap := h.cap
  have hTr := modU_range T0 100001 (by omega)
  go_enter Tryz.func10, Tryz.ntmps10
  go_wp2_with fail
  refine (make_Mod _ T0 100001 hT1 hT2 (by omega) (by omega)).mono ?_
  rintro e w' ⟨rfl, rfl⟩
  generalize modU T0 100001 = T at *
  clear hT1 hT2
  go_wp2_with fail
  go_loopw [5, 6, 7] (fun v n i wr => ∃ j : Nat, EvLoop w xs j v wr ∧ n = .int .i64 (evN (xs.take j)) ∧ i = .int .i64 j) (fun _ _ i _ => xs.length - (intOf i).toNat)
  case atStart => exact ⟨0, ⟨Nat.zero_le _, [], rfl, RatRow.start (Ext.refl _) _⟩, rfl, rfl⟩
  case round =>
    obtain ⟨j, ⟨hj, rs, hrl, hrow⟩, rfl, rfl⟩ := hrel
    have hnb := evN_bound (xs.take j)
    have htl : (xs.take j).length ≤ 40 := by rw [List.length_take]; omega
    by_cases hlt : j < xs.length
    · obtain ⟨b, o, rfl⟩ := h.at (by omega)
      obtain ⟨b', o', e', c0⟩ := (h.ext hrow.ext).cell j hlt
      cases e'
      have hr := h.rng j hlt
      have hm := modU_range xs[j] 7 (by omega)
      have hOf := fun V => even_of V xs[j]
      have hN : Hid (evN (xs.take (j + 1)) = evN (xs.take j) + modU xs[j] 7) := Lib.hid (evN_take xs j hlt)
      have HQ : Hid ((xs.take (j + 1)).map evQ = (xs.take j).map evQ ++ [evQ xs[j]]) := Lib.hid (by rw [List.take_succ_eq_append_getElem hlt, List.map_append]; rfl)
      have hq2 := len_evQ xs[j]
      have hMod := fun V => make_Mod V xs[j] 7 hr.1 hr.2 (by omega) (by omega)
      generalize evN (xs.take j) = n at *
      generalize evQ xs[j] = q at *
      generalize modU xs[j] 7 = m at *
      generalize xs[j] = x at *
      have HOf := Lib.hid hOf
      have HMod := Lib.hid hMod
      have HR := Lib.hid hrow
      have HRL := Lib.hid hrl
      clear hOf hMod hrow hrl
      go_wp2_with fail
      refine (HMod.out _).mono ?_
      rintro e w' ⟨rfl, rfl⟩
      go_wp2_with fail
      refine (HOf.out _).mono ?_
      intro e w2 hNR
      obtain ⟨r, rfl, hr2, x2⟩ := hNR.isCan
      clear hNR
      have hrow2 := HR.out.extend x2
      have hOff : Off r u5.ownBlock := off_fresh HR.out.own hr2.fa hr2.fb
      have hRat := hr2.isRat.mono hq2
      have hsz2 := x2.size
      have hEw := hrow2.ext
      have hEs := hEw.size
      have HROW := Lib.hid hrow2
      have HRAT := Lib.hid hRat
      have HOFF := Lib.hid hOff
      have HE := Lib.hid hEw
      clear hrow2 hRat hOff hEw hr2 hq2 HR
      go_wp2_with (at_builtin; refine wpList_append_at _ rfl _ _ 48 rfl w.heap.size 55 (.agg zero3.toArray) 3 56 Tryz.underlying48 Tryz.info_rat rfl (by decide) u5 rs.length (ratCells rs) rfl ?c1 _ 1 1 r.cells rfl rfl ?c2 ?c3 ?c4 ?c5 (by decide) ?c6 ?_; rotate_right; intro v' w3 ho he hb hz hv)
      · have xa : Ext w2 (w2.alloc (.cells #[.bool r.s, .slice r.a r.k r.c, .slice r.b r.j r.d] 55)) := (Ext.refl _).alloc _
        have hn := (HROW.out.extend xa).snoc (HRAT.out.ext xa) HOFF.out ho.out (he.out w (HE.out.trans xa) (Nat.le_refl _)) hb.out hv.out
        refine ⟨⟨j + 1, ⟨by omega, rs ++ [r], by simp [HRL.out], by rw [HQ.out]; exact hn⟩, by rw [hN.out], by go_num⟩, by simp [intOf]; omega⟩
      · exact ownsRow_ext HROW.out.own ((Ext.refl _).alloc _)
      · intro _
        refine ⟨_, rfl, ?_⟩
        exact cells_new w2 55 r.cells
      · exact ratVals_one r
      · intro e; cases e
      · have := HRL.out; omega
      · simp; omega
    · obtain rfl : j = xs.length := by omega
      obtain ⟨a', c', rfl, hR⟩ := hrow.rats (by omega)
      have hE := hrow.ext
      rw [List.take_length] at hR hnb
      rw [List.take_length]
      have hp : ∀ x ∈ xs.map evQ, 0 ≤ x := by
        intro x hx
        obtain ⟨y, _, rfl⟩ := List.mem_map.1 hx
        exact evQ_nonneg y
      have hpos : ∀ i (hi : i < rs.length), 0 ≤ ((xs.map evQ)[i]'(by rw [hR.len]; exact hi)) := fun i hi => hp _ (List.getElem_mem _)
      by_cases hz : evN xs = 0
      · have hS := share_none wr T a' c' 2 rs _ hR (by omega) (by omega) (by omega) (by omega) hpos (evN_zero.1 hz)
        rw [hrl] at hS
        rw [hrl]
        have HS := Lib.hid hS
        rw [hz]
        clear hS hp hpos hR hz hrow hnb hrl
        go_wp2_with fail
        refine HS.out.mono ?_
        rintro e w2 ⟨rfl, x2⟩
        go_wp2_with fail
        refine (law41_awake _).mono ?_
        rintro e w3 ⟨rfl, x3⟩
        go_wp2_with fail
        go_ret
        exact ⟨rfl, (hE.trans x2).trans x3⟩
      · have hS0 : ¬ qsum (xs.map evQ) = 0 := fun e => hz (evN_zero.2 e)
        have hn0 : 0 < xs.length := by
          rcases xs with _ | ⟨x, xs⟩
          · exact absurd rfl hz
          · simp
        have hS := share_ok wr T a' c' 2 rs _ hR (by omega) (by omega) (by omega) (by omega) hpos (by omega) hS0
        have hL := even_law T (xs.map evQ) hTr.1 hp hS0
        have hB := shOut_bound T (xs.map evQ) (by omega) (by omega) hp hS0
        have hlen := hL.len
        rw [List.length_map] at hlen
        change Calls _ _ _ _ (ApGood (shOut T (xs.map evQ)) wr) at hS
        rw [hrl] at hS
        rw [hrl]
        have hB' : ∀ i, i < xs.length → -281474976710656 ≤ (shOut T (xs.map evQ))[i]?.getD 0 ∧ (shOut T (xs.map evQ))[i]?.getD 0 ≤ 281474976710657 := fun i hi => hB i (by simpa using hi)
        have hP := even_plain hL
        have hsum := hL.sum
        generalize shOut T (xs.map evQ) = out at *
        have hS' : Calls Tryz.prog 45 #[.int .i64 T, .slice a' xs.length c'] wr fun e w' => ∃ p, e = .returned (.tuple #[.slice (some ⟨p, 0, none⟩) xs.length xs.length, .int .i64 0]) ∧ Arr w' p 3 (i64s out) ∧ Ext wr w' := by
          refine hS.mono ?_
          rintro e w' ⟨p, he, _, hA, hx⟩
          rw [hlen] at he
          exact ⟨p, he, hA, hx⟩
        have HS := Lib.hid hS'
        have hz' : (evN xs == 0) = false := by simpa using hz
        generalize evN xs = n at *
        have HL := Lib.hid hlen
        have HB := Lib.hid hB'
        have HP := Lib.hid hP
        have HSUM := Lib.hid hsum
        clear hS hS' hp hpos hR hz hrow hnb hL hB hB' hlen hP hsum hS0 hrl
        go_wp2_with fail
        refine HS.out.mono ?_
        rintro e w2 ⟨p, rfl, hA, x2⟩
        go_wp2_with fail
        refine (law41_awake _).mono ?_
        rintro e w3 ⟨rfl, x3⟩
        have hA3 := hA.ext x3
        have hE3 : Ext w w3 := (hE.trans x2).trans x3
        clear hA x2 x3 hE
        go_wp2_with fail
        go_loopw [11, 12] (fun sm i wl => ∃ j : Nat, j ≤ xs.length ∧ Ext w3 wl ∧ sm = .int .i64 (isum (out.take j)) ∧ i = .int .i64 j) (fun _ i _ => xs.length - (intOf i).toNat)
        case atStart => exact ⟨0, Nat.zero_le _, Ext.refl _, rfl, rfl⟩
        case round =>
          obtain ⟨i, hi, hX, rfl, rfl⟩ := hrel
          obtain ⟨wl, rfl⟩ : ∃ wl : World, wl = wr := ⟨_, rfl⟩
          obtain ⟨b1, b2⟩ := isum_take_bound out 281474976710657 (by decide) (fun k hk => by have := HB.out k (by rw [← HL.out]; exact hk); omega) i (by rw [HL.out]; exact hi) (by rw [HL.out]; exact hs)
          by_cases hlt : i < xs.length
          · obtain ⟨b, o, rfl⟩ := h.at (by omega)
            obtain ⟨b', o', e', c0⟩ := (h.ext (hE3.trans hX)).cell i hlt
            cases e'
            have hr := h.rng i hlt
            have cO := hA3.ext hX
            have g0 : wl.cell? ⟨p, i, none⟩ = some (.int .i64 (out[i]?.getD 0)) := by
              rw [cO.cell, i64s_get _ _ (by rw [HL.out]; exact hlt), List.getElem?_eq_getElem (by rw [HL.out]; exact hlt)]; rfl
            have hSu : Hid (isum (out.take (i + 1)) = isum (out.take i) + out[i]?.getD 0) := Lib.hid (by
              rw [isum_take_succ _ _ (by rw [HL.out]; exact hlt), List.getElem?_eq_getElem (by rw [HL.out]; exact hlt)]; rfl)
            have hb := HB.out i hlt
            have hz0 := HP.out.1 i hlt
            have hMod := fun V => make_Mod V xs[i] 7 hr.1 hr.2 (by omega) (by omega)
            have HMod := Lib.hid hMod
            clear hMod
            have HZ0 : Hid (modU xs[i] 7 = 0 → out[i]?.getD 0 = 0) := Lib.hid hz0
            have HSA : Hid (∀ k (hk : k < xs.length), modU xs[i] 7 = modU xs[k] 7 → out[i]?.getD 0 - out[k]?.getD 0 ≤ 1) := Lib.hid (fun k hk => HP.out.2.1 i k hlt hk)
            have HSB : Hid (∀ k (hk : k < xs.length), modU xs[i] 7 = modU xs[k] 7 → out[k]?.getD 0 - out[i]?.getD 0 ≤ 1) := Lib.hid (fun k hk e => HP.out.2.1 k i hk hlt e.symm)
            have HSC : Hid (∀ k (hk : k < xs.length), modU xs[k] 7 < modU xs[i] 7 → out[k]?.getD 0 ≤ out[i]?.getD 0) := Lib.hid (fun k hk e => HP.out.2.2 i k hlt hk e)
            clear hz0
            generalize hm : modU xs[i] 7 = m at *
            generalize hou : out[i]?.getD 0 = ou at *
            generalize isum (out.take i) = su at *
            have HM : Hid (modU xs[i] 7 = m) := Lib.hid hm
            have HOU : Hid (out[i]?.getD 0 = ou) := Lib.hid hou
            clear hm hou
            have c0' := c0
            generalize hxx : xs[i] = x at c0 HMod
            have HXX := Lib.hid hxx
            clear hxx c0'
            have hlt' : (i : Int) < (xs.length : Int) := by omega
            have hi0 : (0 : Int) ≤ (i : Int) := by omega
            by_cases hm0 : m = 0
            all_goals first
              | (have t0 : (m == 0) = true := by simpa using hm0
                 have t1 : (ou != 0) = false := by rw [HZ0.out hm0]; rfl)
              | (have t0 : (m == 0) = false := by simpa using hm0)
            all_goals clear hm0
            all_goals go_wp2_with fail
            all_goals refine (HMod.out _).mono ?_
            all_goals rintro e w' ⟨rfl, rfl⟩
            all_goals go_wp2_with fail
            all_goals
              go_loopw [13] (fun kk wq => ∃ q : Nat, q ≤ xs.length ∧ Ext wl wq ∧ kk = .int .i64 q) (fun kk _ => xs.length - (intOf kk).toNat)
              case atStart => exact ⟨0, Nat.zero_le _, Ext.refl _, rfl⟩
              case round =>
                obtain ⟨q, hq, hY, rfl⟩ := hrel
                obtain ⟨wq, rfl⟩ : ∃ wq : World, wq = wr := ⟨_, rfl⟩
                have c1 := cell_ext hY c0
                have g1 := cell_ext hY g0
                by_cases hlq : q < xs.length
                · obtain ⟨b5, o5, e5, c2⟩ := (h.ext ((hE3.trans hX).trans hY)).cell q hlq
                  cases e5
                  have hr2 := h.rng q hlq
                  have cO2 := cO.ext hY
                  have g2 : wq.cell? ⟨p, q, none⟩ = some (.int .i64 (out[q]?.getD 0)) := by
                    rw [cO2.cell, i64s_get _ _ (by rw [HL.out]; exact hlq), List.getElem?_eq_getElem (by rw [HL.out]; exact hlq)]; rfl
                  have hb2 := HB.out q hlq
                  have hMod2 := fun V => make_Mod V xs[q] 7 hr2.1 hr2.2 (by omega) (by omega)
                  have HMod2 := Lib.hid hMod2
                  clear hMod2
                  have hsa := HSA.out q hlq
                  have hsb := HSB.out q hlq
                  have hsc := HSC.out q hlq
                  generalize modU xs[q] 7 = m2 at *
                  generalize out[q]?.getD 0 = oq at *
                  generalize xs[q] = x2 at *
                  have hlq' : (q : Int) < (xs.length : Int) := by omega
                  have hq0 : (0 : Int) ≤ (q : Int) := by omega
                  have w1' : IntKind.i64.wrap (ou - oq) = ou - oq := IntWalk.i64_in _ (by omega)
                  have w2' : IntKind.i64.wrap (oq - ou) = oq - ou := IntWalk.i64_in _ (by omega)
                  have tst : ((m == m2) = true ∧ decide (m2 < m) = false ∧ decide (1 < ou - oq) = false ∧ decide (1 < oq - ou) = false) ∨ ((m == m2) = false ∧ decide (m2 < m) = true ∧ decide (ou < oq) = false) ∨ ((m == m2) = false ∧ decide (m2 < m) = false) := by
                    by_cases e1 : m = m2
                    · exact Or.inl ⟨by simpa using e1, by simp; omega, by have := hsa e1; simp; omega, by have := hsb e1; simp; omega⟩
                    · by_cases e2 : m2 < m
                      · exact Or.inr (Or.inl ⟨by simpa using e1, by simpa using e2, by have := hsc e2; simp; omega⟩)
                      · exact Or.inr (Or.inr ⟨by simpa using e1, by simpa using e2⟩)
                  clear hsa hsb hsc cO2 hr2 hb2
                  go_wp2_with fail
                  go_quiet ((go_at_call 22; first | (with_reducible exact quiet_left (HMod.out _)) | (with_reducible exact quiet_left (HMod2.out _))))
                  go_wp2_with fail
                  rcases tst with ⟨t1, t2, t3, t4⟩ | ⟨t1, t2, t3⟩ | ⟨t1, t2⟩
                  all_goals go_quiet (fail)
                  all_goals clear t1 t2
                  all_goals go_wp2_with fail
                  all_goals exact ⟨⟨q + 1, by omega, hY.drewN _, by go_num⟩, by simp only [intOf]; omega⟩
                · obtain rfl : q = xs.length := by omega
                  go_wp2_with fail
                  go_roundw
                  case rel => exact ⟨i + 1, by omega, hX.trans hY, by rw [hSu.out], by go_num⟩
                  case measure => simp [intOf] <;> omega
          · obtain rfl : i = xs.length := by omega
            have e1 : isum (out.take xs.length) = T := by rw [← HSUM.out, ← HL.out, List.take_length]
            rw [e1]
            clear e1
            go_wp2_with fail
            go_ret
            exact ⟨rfl, hE3.trans hX⟩

/-- UpliftEven returns true. -/
theorem law41_UpliftEven (w : World) (T0 : Int) (a : Option Addr) (c : Nat) (xs : List Int) (h : IntIn w a c xs) (hT1 : -9223372036854775808 ≤ T0) (hT2 : T0 < 9223372036854775808) :
    Calls Tryz.prog 10 #[.int .i64 T0, .slice a xs.length c] w fun e w' => e = .returned (.bool true) ∧ Ext w w' := by
  by_cases hs : xs.length ≤ 40
  · exact law41_even w T0 a c xs h hT1 hT2 hs
  · have := h.le
    have := h.cap
    exact law41_long w T0 a xs.length c (by omega) (by omega)

end Go.Proofs.YtgihpfkjpfanmaaGreat

/- How the arguments of the statements come in: slices of int. -/
namespace Go.Proofs.YtgihpfkjpfanmaaGreat
open Go.ChangeShapes Go.WideShapes Go.ChangeAt Go.RowKit

theorem Tryz.own : ownKnob Tryz.prog.godebug = none := by kernel_rfl
theorem Tryz.laidOut : laidOutB Tryz.prog = true := by kernel_rfl

/-- A slice of integers that came in: it is nil; or it leads to a row of 'cap' cells. -/
def IsRow (k : IntKind) (w : World) (a : Option Addr) (len cap : Nat) (zs : List Int) : Prop :=
  (a = none ∧ len = 0 ∧ cap = 0 ∧ zs = []) ∨
  ∃ x, a = some x ∧ len ≤ cap ∧ cap ≤ maxLen ∧ zs.length = cap ∧ (∀ i, i < zs.length → w.cell? (x.add i) = some (.int k (zs.getD i 0))) ∧ ∀ n ∈ zs, (Lit.int k n).wf = true

theorem wf_i64 {n : Int} (h : (Lit.int .i64 n).wf = true) : -9223372036854775808 ≤ n ∧ n < 9223372036854775808 := by
  simp [Lit.wf, IntKind.min, IntKind.max, IntKind.signed, IntKind.bits] at h
  omega

theorem IsRow.intIn {w : World} {a : Option Addr} {len cap : Nat} {zs : List Int} (h : IsRow .i64 w a len cap zs) : (zs.take len).length = len ∧ IntIn w a cap (zs.take len) := by
  rcases h with ⟨rfl, rfl, rfl, rfl⟩ | ⟨x, rfl, h1, h2, h3, h4, h5⟩
  · exact ⟨rfl, ⟨Nat.le_refl _, by omega, fun i hi => absurd hi (Nat.not_lt_zero _), fun i hi => absurd hi (Nat.not_lt_zero _)⟩⟩
  · have hl : (zs.take len).length = len := by rw [List.length_take]; omega
    refine ⟨hl, ⟨by omega, by unfold maxLen at h2; omega, fun i hi => ?_, fun i hi => ?_⟩⟩
    · have hc := h4 i (by omega)
      obtain ⟨b, off, spot⟩ := x
      have hspot : spot = none := by simpa [Addr.add] using World.cell?_spot (h4 0 (by omega))
      subst hspot
      refine ⟨b, off, rfl, ?_⟩
      rw [show (Addr.add ⟨b, off, none⟩ i) = ⟨b, off + i, none⟩ from by unfold Addr.add; split <;> simp_all] at hc
      rw [hc, List.getElem_take]
      have hi' : i < zs.length := by omega
      simp [hi']
    · rw [List.getElem_take]
      exact wf_i64 (h5 _ (List.getElem_mem _))

end Go.Proofs.YtgihpfkjpfanmaaGreat
