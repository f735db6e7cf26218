/- Texts of the proof: Ref10, Ref11. -/
import Derived.Deep.DeepCutAuto
import Derived.Test.YtgihpfkjpfanmaaGreatChecked
import Derived.Lib.Strings
import Derived.Lib.Slices
import Derived.Lib.Small
import Derived.Lib.Walk
import Derived.Lib.BitFns
import Derived.Laws.AppendOwnNone
import Derived.Deep.LoopGhost
import Derived.Deep.CutBlock
import Derived.IntWalk
import Derived.Test.YtgihpfkjpfanmaaGreatRows
import Derived.KernelRfl
import Derived.WalkKit
import Derived.WalkSpells
import Derived.Sort.Grow
import Derived.Lib.Hide
import Derived.Laws.CopyOwn
import Derived.Laws.BitsAllLaws
import Derived.Deep.QuietTactic
import Derived.BigQuiet
import Derived.WalkLawsBesides
import Derived.Deep.RegionWith
import Derived.Deep.RegionHeld3
import Derived.Test.YtgihpfkjpfanmaaGreatQi1
import Derived.Test.YtgihpfkjpfanmaaGreatQi2
import Derived.Test.YtgihpfkjpfanmaaGreatQi3
import Derived.Test.YtgihpfkjpfanmaaGreatQi4
import Derived.Test.YtgihpfkjpfanmaaGreatQi5
import Derived.Test.YtgihpfkjpfanmaaGreatQi6
import Derived.Test.YtgihpfkjpfanmaaGreatQi7
import Derived.Test.YtgihpfkjpfanmaaGreatQi8
import Derived.Test.YtgihpfkjpfanmaaGreatQi9
import Derived.Test.YtgihpfkjpfanmaaGreatQi10
namespace Go.Proofs.YtgihpfkjpfanmaaGreat
open Go.RowKit

theorem raw_zero' (w : World) : Raw (w.alloc (Obj.cells #[] 122)) (some ⟨w.heap.size, 0, none⟩) 0 0 0 :=
  ⟨[], rfl, rfl, ⟨Nat.zero_le _, by omega, Nat.zero_le _, (fun e => by cases e), Small.nil, fun _ h => by cases h⟩⟩

set_option maxHeartbeats 400000 in
/-- ref03.Zero. -/
theorem r3_Zero (w : World) : Calls Tryz.prog 29 #[] w (NewRat 0 w) := by
  have r0 := raw_zero' (w.alloc (.cells #[.bool false, .slice (some ⟨w.heap.size + 1, 0, none⟩) 0 0, .slice (some ⟨w.heap.size + 1 + 1, 0, none⟩) 1 1] 55))
  have r1 := raw_one' ((w.alloc (.cells #[.bool false, .slice (some ⟨w.heap.size + 1, 0, none⟩) 0 0, .slice (some ⟨w.heap.size + 1 + 1, 0, none⟩) 1 1] 55)).alloc (Obj.cells #[] 122))
  have e0 : Ext w (w.alloc (.cells #[.bool false, .slice (some ⟨w.heap.size + 1, 0, none⟩) 0 0, .slice (some ⟨w.heap.size + 1 + 1, 0, none⟩) 1 1] 55)) := (Ext.refl _).alloc _
  rw [show (w.alloc (.cells #[.bool false, .slice (some ⟨w.heap.size + 1, 0, none⟩) 0 0, .slice (some ⟨w.heap.size + 1 + 1, 0, none⟩) 1 1] 55)).heap.size = w.heap.size + 1 from by simp] at r0
  rw [show ((w.alloc (.cells #[.bool false, .slice (some ⟨w.heap.size + 1, 0, none⟩) 0 0, .slice (some ⟨w.heap.size + 1 + 1, 0, none⟩) 1 1] 55)).alloc (Obj.cells #[] 122)).heap.size = w.heap.size + 1 + 1 from by simp] at r1
  go_enter Tryz.func29, Tryz.ntmps29
  go_wp2_with fail
  exact bodyPost_ret (v := .agg #[.bool false, .slice (some ⟨w.heap.size + 1, 0, none⟩) 0 0, .slice (some ⟨w.heap.size + 1 + 1, 0, none⟩) 1 1]) (by simp [results, Tryz.results29, go_sem]) rfl
    ⟨_, 0, _, 1, rfl, r0.ext ((Ext.refl _).alloc _), Fr.some (by omega), r1, Fr.some (by omega), (e0.alloc _).alloc _⟩

theorem sgn_lt (t : Bool) (m : Nat) (hm : 0 < m) : decide (sgn t m < 0) = t := by
  rw [sgn_neg]; simp [hm]
theorem limbs_one {l : List Nat} (hs : Small l) (hl : l.length = len (val l)) : l = [1] ↔ val l = 1 := by
  constructor
  · intro h; rw [h]; rfl
  · intro h
    have h1 : l.length = 1 := by rw [hl, h]; exact len1
    exact val_inj hs (Small.one (by decide)) (by rw [h1]; rfl) (by rw [h]; rfl)

/-- The rational number of two integers. -/
theorem make_num (s t : Bool) (n m : Nat) (hm : 0 < m) : (mkRat (sgn (s != t) n) m).num.natAbs = n / Nat.gcd n m ∧ (mkRat (sgn (s != t) n) m).den = m / Nat.gcd n m ∧ decide ((mkRat (sgn (s != t) n) m).num < 0) = decide (sgn (s != t) (n / Nat.gcd n m) < 0) := by
  have h1 := mkRat_num_natAbs (sgn (s != t) n) m hm
  have h2 := mkRat_den' (sgn (s != t) n) m hm
  have h3 := mkRat_num_neg (sgn (s != t) n) m hm
  rw [sgn_natAbs, Nat.gcd_comm] at h1 h2
  refine ⟨h1, h2, ?_⟩
  rw [h3, sgn_neg, sgn_neg]
  congr 2
  have hg : 0 < Nat.gcd n m := Nat.gcd_pos_of_pos_right _ hm
  by_cases h : 0 < n
  · have : 0 < n / Nat.gcd n m := Nat.div_pos (Nat.le_of_dvd h (Nat.gcd_dvd_left n m)) hg
    simp [h, this]
  · have : n = 0 := by omega
    subst this; simp

set_option maxHeartbeats 400000 in
/-- ref03.Make, the denominator 0. -/
theorem r3_Make_zero (w : World) (s t : Bool) (a b : Option Addr) (k c k' c' n m : Nat) (_h : Raw w a k c n) (h' : Raw w b k' c' m) (hm : m = 0) :
    Calls Tryz.prog 75 #[.agg #[.bool s, .slice a k c], .agg #[.bool t, .slice b k' c']] w (NewRat (mkRat (sgn (s != t) n) m) w) := by
  rw [hm, Rat.mkRat_zero]
  have hS : ∀ V, Ext w V → Calls Tryz.prog 93 #[.agg #[.bool t, .slice b k' c']] V fun e w' => e = .returned (.int .i64 0) ∧ Ext V w' := by
    intro V hV
    have := r2_Sign V t b k' c' m (h'.ext hV)
    rw [hm, sgn_zero] at this
    exact this
  have HS := Lib.hid hS; clear hS
  go_enter Tryz.func75, Tryz.ntmps75
  go_wp2_with fail
  obtain ⟨W, hW, x0, Z0, A0, A1, A2⟩ := boxes3 w 53 [.bool s, .slice a k c] 53 [.bool t, .slice b k' c'] 55 [.bool false, .slice none 0 0, .slice none 0 0]
  rw [← hW]
  clear hW
  obtain ⟨k0_0, k0_1, f0_0, f0_1⟩ := box2 A0 (Ext.refl _)
  have z0 := (A0.ext (Ext.refl _)).lt
  obtain ⟨k1_0, k1_1, f1_0, f1_1⟩ := box2 A1 (Ext.refl _)
  have z1 := (A1.ext (Ext.refl _)).lt
  obtain ⟨k2_0, k2_1, k2_2, f2_0, f2_1, f2_2⟩ := box3 A2 (Ext.refl _)
  have z2 := (A2.ext (Ext.refl _)).lt
  refine (HS.out _ x0).mono ?_
  rintro e w1 ⟨rfl, x1⟩
  obtain ⟨k0_0, k0_1, f0_0, f0_1⟩ := box2 A0 x1
  have z0 := (A0.ext x1).lt
  obtain ⟨k1_0, k1_1, f1_0, f1_1⟩ := box2 A1 x1
  have z1 := (A1.ext x1).lt
  obtain ⟨k2_0, k2_1, k2_2, f2_0, f2_1, f2_2⟩ := box3 A2 x1
  have z2 := (A2.ext x1).lt
  go_wp2_with fail
  refine (r3_Zero _).mono ?_
  intro e w2 hN
  obtain ⟨a2, c2, a3, c3, rfl, r2, f2, r3, f3, x2⟩ := id hN
  obtain ⟨k0_0, k0_1, f0_0, f0_1⟩ := box2 A0 (x1.trans x2)
  have z0 := (A0.ext (x1.trans x2)).lt
  obtain ⟨k1_0, k1_1, f1_0, f1_1⟩ := box2 A1 (x1.trans x2)
  have z1 := (A1.ext (x1.trans x2)).lt
  obtain ⟨k2_0, k2_1, k2_2, f2_0, f2_1, f2_2⟩ := box3 A2 (x1.trans x2)
  have z2 := (A2.ext (x1.trans x2)).lt
  go_wp2_with fail
  exact bodyPost_ret (by simp [results, Tryz.results75, go_sem, *]) rfl (NewRat.touch (hN.base x1) x0 (Touch.three _ (by omega) (by rw [Z0.out]; omega) _ _ _))

set_option maxHeartbeats 1000000 in
set_option maxRecDepth 100000 in
/-- ref03.Make, the denominator 1. -/
theorem r3_Make_one (w : World) (s : Bool) (a b : Option Addr) (k c k' c' n : Nat) (h : Raw w a k c n) (h' : Raw w b k' c' 1) :
    Calls Tryz.prog 75 #[.agg #[.bool s, .slice a k c], .agg #[.bool false, .slice b k' c']] w (NewRat (mkRat (sgn (s != false) n) 1) w) := by
  obtain ⟨m, hm1⟩ : ∃ m : Nat, m = 1 := ⟨_, rfl⟩
  have hm : 0 < m := by omega
  rw [← hm1] at h'
  obtain ⟨t, ht⟩ : ∃ t : Bool, t = false := ⟨_, rfl⟩
  rw [← ht]
  have hS : ∀ V, Ext w V → Calls Tryz.prog 93 #[.agg #[.bool t, .slice b k' c']] V fun e w' => e = .returned (.int .i64 (sgn t m).sign) ∧ Ext V w' := fun V hV => r2_Sign V t b k' c' m (h'.ext hV)
  have hsn : ((sgn t m).sign == 0) = false := by
    rw [beq_eq_false_iff_ne]
    cases t with
    | true => rw [sgn_true, Int.sign_eq_neg_one_of_neg (by omega)]; decide
    | false => rw [sgn_false, Int.sign_eq_one_of_pos (by omega)]; decide
  generalize (sgn t m).sign = sg at hS hsn
  have hN : ∀ V, Ext w V → Calls Tryz.prog 90 #[.agg #[.bool t, .slice b k' c']] V fun e w' => ∃ a1 c1, e = .returned (.agg #[.bool t, .slice a1 (len m) c1]) ∧ Raw w' a1 (len m) c1 m ∧ Fr V.heap.size a1 ∧ Ext V w' := by
    intro V hV
    refine (r2_Norm V t b k' c' m (h'.ext hV)).mono ?_
    rintro e w' ⟨a1, c1, he, hr, hf, hx⟩
    rw [sgn_natAbs] at he hr
    rw [sgn_lt t m hm] at he
    exact ⟨a1, c1, he, hr, hf, hx⟩
  have HS := Lib.hid hS; have HN := Lib.hid hN; clear hS hN
  have hNn : ∀ V, Ext w V → Calls Tryz.prog 90 #[.agg #[.bool s, .slice a k c]] V (NewInt (sgn s n) V) := fun V hV => r2_Norm V s a k c n (h.ext hV)
  obtain ⟨Z, hZ⟩ : ∃ Z, Z = sgn s n := ⟨_, rfl⟩
  rw [← hZ] at hNn
  obtain ⟨q, hq⟩ : ∃ q : Rat, q = mkRat (sgn (s != t) n) 1 := ⟨_, rfl⟩
  have hq1 : q.num = Z ∧ q.den = 1 := by
    have e : q = ((sgn s n : Int) : Rat) := by rw [hq, ht, Bool.bne_false, Rat.mkRat_one]
    rw [e, hZ]; exact ⟨rfl, rfl⟩
  rw [← hq]
  have HNN := Lib.hid hNn; have HQ := Lib.hid hq1; have HM1 := Lib.hid hm1
  clear hNn hq1 hq hZ hm1
  subst ht
  go_enter Tryz.func75, Tryz.ntmps75
  go_wp2_with fail
  obtain ⟨W, hW, x0, Z0, A0, A1, A2⟩ := boxes3 w 53 [.bool s, .slice a k c] 53 [.bool false, .slice b k' c'] 55 [.bool false, .slice none 0 0, .slice none 0 0]
  rw [← hW]
  clear hW
  obtain ⟨k0_0, k0_1, f0_0, f0_1⟩ := box2 A0 (Ext.refl _)
  have z0 := (A0.ext (Ext.refl _)).lt
  obtain ⟨k1_0, k1_1, f1_0, f1_1⟩ := box2 A1 (Ext.refl _)
  have z1 := (A1.ext (Ext.refl _)).lt
  obtain ⟨k2_0, k2_1, k2_2, f2_0, f2_1, f2_2⟩ := box3 A2 (Ext.refl _)
  have z2 := (A2.ext (Ext.refl _)).lt
  refine (HS.out _ x0).mono ?_
  rintro e w1 ⟨rfl, x1⟩
  obtain ⟨k0_0, k0_1, f0_0, f0_1⟩ := box2 A0 x1
  have z0 := (A0.ext x1).lt
  obtain ⟨k1_0, k1_1, f1_0, f1_1⟩ := box2 A1 x1
  have z1 := (A1.ext x1).lt
  obtain ⟨k2_0, k2_1, k2_2, f2_0, f2_1, f2_2⟩ := box3 A2 x1
  have z2 := (A2.ext x1).lt
  go_wp2_with fail
  refine (HN.out _ (x0.trans x1)).mono ?_
  rintro e w2 ⟨a1, c1, rfl, r1, f1, x2⟩
  obtain ⟨k0_0, k0_1, f0_0, f0_1⟩ := box2 A0 (x1.trans x2)
  have z0 := (A0.ext (x1.trans x2)).lt
  obtain ⟨k1_0, k1_1, f1_0, f1_1⟩ := box2 A1 (x1.trans x2)
  have z1 := (A1.ext (x1.trans x2)).lt
  obtain ⟨k2_0, k2_1, k2_2, f2_0, f2_1, f2_2⟩ := box3 A2 (x1.trans x2)
  have z2 := (A2.ext (x1.trans x2)).lt
  go_upto_region 4 with fail
  obtain ⟨W2, hW2, y2, ZZ2, P0⟩ := boxes1 w2 53 [.bool false, .slice a1 (len m) c1]
  rw [← hW2]
  clear hW2
  have g2 : Ext W W2 := (x1.trans x2).trans y2
  obtain ⟨k0_0, k0_1, f0_0, f0_1⟩ := box2 A0 g2
  have z0 := (A0.ext g2).lt
  obtain ⟨k1_0, k1_1, f1_0, f1_1⟩ := box2 A1 g2
  have z1 := (A1.ext g2).lt
  obtain ⟨k2_0, k2_1, k2_2, f2_0, f2_1, f2_2⟩ := box3 A2 g2
  have z2 := (A2.ext g2).lt
  obtain ⟨p0_0, p0_1, q0_0, q0_1⟩ := box2 P0 (Ext.refl _)
  go_wp2_with fail
  have o1 := raw_one' W2
  have y3 : Ext W2 (W2.alloc (Obj.cells #[.int .u32 1] 122)) := (Ext.refl _).alloc _
  obtain ⟨l, hl, hv, hA⟩ := (r1.ext y2).ext y3
  obtain ⟨l', hl', hv', hA'⟩ := o1
  have hEq := r1_Equal _ _ _ _ _ l l' hA hA'
  have el' : l' = [1] := val_inj hA'.small (Small.one (by decide)) (by rw [hl']; rfl) (by rw [hv']; rfl)
  have el : l = [1] := (limbs_one hA.small (by rw [hl, hv])).2 (by rw [hv, HM1.out])
  rw [decide_eq_true (show l = l' by rw [el, el']), hl, hl'] at hEq
  clear hA hA' hl hl' hv hv' el el'
  refine hEq.mono ?_
  rintro e w3 ⟨rfl, hq3⟩
  clear hEq
  have g3 : Ext W w3 := (g2.trans y3).trans hq3.ext
  have v3 : Ext W2 w3 := y3.trans hq3.ext
  obtain ⟨k0_0, k0_1, f0_0, f0_1⟩ := box2 A0 g3
  have z0 := (A0.ext g3).lt
  obtain ⟨k1_0, k1_1, f1_0, f1_1⟩ := box2 A1 g3
  have z1 := (A1.ext g3).lt
  obtain ⟨k2_0, k2_1, k2_2, f2_0, f2_1, f2_2⟩ := box3 A2 g3
  have z2 := (A2.ext g3).lt
  obtain ⟨p0_0, p0_1, q0_0, q0_1⟩ := box2 P0 v3
  go_wp2_with fail
  go_region_held3 (fun w' => w'.cell? ⟨w.heap.size, 0, none⟩ = some (.bool s) ∧ w'.cell? ⟨w.heap.size, 1, none⟩ = some (.slice a k c) ∧ w'.cell? ⟨w2.heap.size, 0, none⟩ = some (.bool false) ∧ w'.cell? ⟨w2.heap.size, 1, none⟩ = some (.slice a1 (len m) c1)) (first | exact ⟨k0_0, k0_1, p0_0, p0_1⟩ | (simp [go_sem, k0_0, k0_1, p0_0, p0_1])) (first
    | (go_at_call 90; refine (HNN.out _ (by exact x0.trans g3.drew)).mono ?_; rintro e w4 ⟨a4, c4, rfl, r4, f4, x4⟩; obtain ⟨k0_0, k0_1, f0_0, f0_1⟩ := box2 A0 (g3.drew.trans x4); have z0 := (A0.ext (g3.drew.trans x4)).lt; obtain ⟨k1_0, k1_1, f1_0, f1_1⟩ := box2 A1 (g3.drew.trans x4); have z1 := (A1.ext (g3.drew.trans x4)).lt; obtain ⟨k2_0, k2_1, k2_2, f2_0, f2_1, f2_2⟩ := box3 A2 (g3.drew.trans x4); have z2 := (A2.ext (g3.drew.trans x4)).lt; obtain ⟨p0_0, p0_1, q0_0, q0_1⟩ := box2 P0 (v3.drew.trans x4)))
  go_wp2_with fail
  have zz := Z0.out
  have rN : Raw w4 a4 (len q.num.natAbs) c4 q.num.natAbs := by rw [HQ.out.1]; exact r4
  have rD : Raw w4 a1 (len q.den) c1 q.den := by rw [HQ.out.2, ← HM1.out]; exact (r1.ext y2).ext (v3.drew.trans x4)
  have fin : NewRat q W (.returned (.agg #[.bool (decide (q.num < 0)), .slice a4 (len q.num.natAbs) c4, .slice a1 (len q.den) c1])) w4 := ⟨_, _, _, _, rfl, rN, f4.mono g3.drew.size, rD, f1.mono x1.size, g3.drew.trans x4⟩
  rw [HQ.out.1, HQ.out.2, ← HM1.out] at fin
  exact bodyPost_ret (by simp [results, Tryz.results75, go_sem, k2_0, k2_1, k2_2]) rfl (NewRat.touch fin x0 (Touch.three _ (by omega) (by omega) _ _ _))

set_option maxHeartbeats 2000000 in
set_option maxRecDepth 100000 in
/-- ref03.Make in general. -/
theorem r3_Make_false (w : World) (s t : Bool) (a b : Option Addr) (k c k' c' n m : Nat) (h : Raw w a k c n) (h' : Raw w b k' c' m) (ht : t = false) (hm : 0 < m) (b1 : k < 900000000) (b2 : k' < 900000000) (hm1 : m ≠ 1) :
    Calls Tryz.prog 75 #[.agg #[.bool s, .slice a k c], .agg #[.bool t, .slice b k' c']] w (NewRat (mkRat (sgn (s != t) n) m) w) := by
  have hS : ∀ V, Ext w V → Calls Tryz.prog 93 #[.agg #[.bool t, .slice b k' c']] V fun e w' => e = .returned (.int .i64 (sgn t m).sign) ∧ Ext V w' := fun V hV => r2_Sign V t b k' c' m (h'.ext hV)
  have hsn : ((sgn t m).sign == 0) = false := by
    rw [beq_eq_false_iff_ne]
    cases t with
    | true => rw [sgn_true, Int.sign_eq_neg_one_of_neg (by omega)]; decide
    | false => rw [sgn_false, Int.sign_eq_one_of_pos (by omega)]; decide
  generalize (sgn t m).sign = sg at hS hsn
  have hN : ∀ V, Ext w V → Calls Tryz.prog 90 #[.agg #[.bool t, .slice b k' c']] V fun e w' => ∃ a1 c1, e = .returned (.agg #[.bool t, .slice a1 (len m) c1]) ∧ Raw w' a1 (len m) c1 m ∧ Fr V.heap.size a1 ∧ Ext V w' := by
    intro V hV
    refine (r2_Norm V t b k' c' m (h'.ext hV)).mono ?_
    rintro e w' ⟨a1, c1, he, hr, hf, hx⟩
    rw [sgn_natAbs] at he hr
    rw [sgn_lt t m hm] at he
    exact ⟨a1, c1, he, hr, hf, hx⟩
  have HS := Lib.hid hS; have HN := Lib.hid hN; clear hS hN
  have hln := h.len_le
  have hlm := h'.len_le
  have hg0 : 0 < Nat.gcd n m := Nat.gcd_pos_of_pos_right _ hm
  have hgl : len (Nat.gcd n m) ≤ len m := len_mono (Nat.le_of_dvd hm (Nat.gcd_dvd_right n m))
  have hmg : 0 < m / Nat.gcd n m := Nat.div_pos (Nat.le_of_dvd hm (Nat.gcd_dvd_right n m)) hg0
  have hG : ∀ V, Ext w V → Calls Tryz.prog 139 #[.agg #[.bool s, .slice a k c], .agg #[.bool t, .slice b k' c']] V fun e w' => ∃ a1 c1, e = .returned (.agg #[.bool false, .slice a1 (len (Nat.gcd n m)) c1]) ∧ Raw w' a1 (len (Nat.gcd n m)) c1 (Nat.gcd n m) ∧ Ext V w' := by
    intro V hV
    refine (r2_GCD V s t a b k c k' c' n m (h.ext hV) (h'.ext hV) (by omega) (by omega)).mono ?_
    rintro e w' ⟨a1, c1, he, hr, hf, hx⟩
    rw [Int.natAbs_natCast] at he hr
    rw [decide_eq_false (by omega)] at he
    exact ⟨a1, c1, he, hr, hx⟩
  have hD : ∀ (V : World) (u : Bool) (a' : Option Addr) (j d x : Nat) (a2 : Option Addr) (c2 : Nat), Raw V a' j d x → j < 900000000 → x % Nat.gcd n m = 0 → Raw V a2 (len (Nat.gcd n m)) c2 (Nat.gcd n m) → Calls Tryz.prog 92 #[.agg #[.bool u, .slice a' j d], .agg #[.bool false, .slice a2 (len (Nat.gcd n m)) c2]] V fun e w' => ∃ a3 c3 a4 c4, e = .returned (.tuple #[.agg #[.bool (decide (sgn u (x / Nat.gcd n m) < 0)), .slice a3 (len (x / Nat.gcd n m)) c3], .agg #[.bool false, .slice a4 0 c4], .bool true]) ∧ Raw w' a3 (len (x / Nat.gcd n m)) c3 (x / Nat.gcd n m) ∧ Fr V.heap.size a3 ∧ Ext V w' := by
    intro V u a' j d x a2 c2 hR hj hx0 hR2
    have := r2_DivMod V u false a' a2 j d _ c2 x _ hR hR2 hg0 hj (by omega)
    obtain ⟨q1, q2⟩ := ediv_case (s := u) (t := false) (n := x) hg0 (Or.inr hx0)
    rw [q1, q2, hx0, Bool.bne_false] at this
    refine this.mono ?_
    rintro e w' ⟨a3, c3, a4, c4, he, hr3, hf3, hr4, hf4, hx⟩
    rw [sgn_natAbs] at he hr3
    exact ⟨a3, c3, a4, c4, he, hr3, hf3, hx⟩
  have hx1 : n % Nat.gcd n m = 0 := Nat.mod_eq_zero_of_dvd (Nat.gcd_dvd_left n m)
  have hx2 : m % Nat.gcd n m = 0 := Nat.mod_eq_zero_of_dvd (Nat.gcd_dvd_right n m)
  obtain ⟨m1, m2, m3⟩ := make_num s t n m hm
  obtain ⟨q, hq⟩ : ∃ q : Rat, q = mkRat (sgn (s != t) n) m := ⟨_, rfl⟩
  rw [← hq] at m1 m2 m3 ⊢
  have hdt := sgn_lt t _ hmg
  have hD2 : ∀ (V : World) (a2 : Option Addr) (c2 : Nat), Ext w V → Raw V a2 (len (Nat.gcd n m)) c2 (Nat.gcd n m) → Calls Tryz.prog 92 #[.agg #[.bool t, .slice b k' c'], .agg #[.bool false, .slice a2 (len (Nat.gcd n m)) c2]] V fun e w' => ∃ a3 c3 a4 c4, e = .returned (.tuple #[.agg #[.bool t, .slice a3 (len (m / Nat.gcd n m)) c3], .agg #[.bool false, .slice a4 0 c4], .bool true]) ∧ Raw w' a3 (len (m / Nat.gcd n m)) c3 (m / Nat.gcd n m) ∧ Fr V.heap.size a3 ∧ Ext V w' := by
    intro V a2 c2 hV hR2
    have := hD V t b k' c' m a2 c2 (h'.ext hV) b2 hx2 hR2
    rw [hdt] at this
    exact this
  have hD1 : ∀ (V : World) (a2 : Option Addr) (c2 : Nat), Ext w V → Raw V a2 (len (Nat.gcd n m)) c2 (Nat.gcd n m) → Calls Tryz.prog 92 #[.agg #[.bool s, .slice a k c], .agg #[.bool false, .slice a2 (len (Nat.gcd n m)) c2]] V fun e w' => ∃ a3 c3 a4 c4, e = .returned (.tuple #[.agg #[.bool (decide (sgn s (n / Nat.gcd n m) < 0)), .slice a3 (len (n / Nat.gcd n m)) c3], .agg #[.bool false, .slice a4 0 c4], .bool true]) ∧ Raw w' a3 (len (n / Nat.gcd n m)) c3 (n / Nat.gcd n m) ∧ Fr V.heap.size a3 ∧ Ext V w' := fun V a2 c2 hV hR2 => hD V s a k c n a2 c2 (h.ext hV) b1 hx1 hR2
  have hl1 := len_mono (Nat.div_le_self n (Nat.gcd n m))
  have hl2 := len_mono (Nat.div_le_self m (Nat.gcd n m))
  generalize n / Nat.gcd n m = N at *
  generalize m / Nat.gcd n m = D at *
  generalize Nat.gcd n m = G at *
  obtain ⟨sN, hsN⟩ : ∃ sN, sN = decide (sgn s N < 0) := ⟨_, rfl⟩
  rw [← hsN] at hD1
  have HG := Lib.hid hG; have HD1 := Lib.hid hD1; have HD2 := Lib.hid hD2
  have M1 := Lib.hid m1; have M2 := Lib.hid m2; have M3 := Lib.hid m3; have HSN := Lib.hid hsN; have HQ := Lib.hid hq
  clear hG hD hD1 hD2 hx1 hx2 m1 m2 m3 hq hdt hsN
  subst ht
  go_enter Tryz.func75, Tryz.ntmps75
  go_wp2_with fail
  obtain ⟨W, hW, x0, Z0, A0, A1, A2⟩ := boxes3 w 53 [.bool s, .slice a k c] 53 [.bool false, .slice b k' c'] 55 [.bool false, .slice none 0 0, .slice none 0 0]
  rw [← hW]
  clear hW
  obtain ⟨k0_0, k0_1, f0_0, f0_1⟩ := box2 A0 (Ext.refl _)
  have z0 := (A0.ext (Ext.refl _)).lt
  obtain ⟨k1_0, k1_1, f1_0, f1_1⟩ := box2 A1 (Ext.refl _)
  have z1 := (A1.ext (Ext.refl _)).lt
  obtain ⟨k2_0, k2_1, k2_2, f2_0, f2_1, f2_2⟩ := box3 A2 (Ext.refl _)
  have z2 := (A2.ext (Ext.refl _)).lt
  refine (HS.out _ x0).mono ?_
  rintro e w1 ⟨rfl, x1⟩
  obtain ⟨k0_0, k0_1, f0_0, f0_1⟩ := box2 A0 x1
  have z0 := (A0.ext x1).lt
  obtain ⟨k1_0, k1_1, f1_0, f1_1⟩ := box2 A1 x1
  have z1 := (A1.ext x1).lt
  obtain ⟨k2_0, k2_1, k2_2, f2_0, f2_1, f2_2⟩ := box3 A2 x1
  have z2 := (A2.ext x1).lt
  go_wp2_with fail
  refine (HN.out _ (x0.trans x1)).mono ?_
  rintro e w2 ⟨a1, c1, rfl, r1, f1, x2⟩
  obtain ⟨k0_0, k0_1, f0_0, f0_1⟩ := box2 A0 (x1.trans x2)
  have z0 := (A0.ext (x1.trans x2)).lt
  obtain ⟨k1_0, k1_1, f1_0, f1_1⟩ := box2 A1 (x1.trans x2)
  have z1 := (A1.ext (x1.trans x2)).lt
  obtain ⟨k2_0, k2_1, k2_2, f2_0, f2_1, f2_2⟩ := box3 A2 (x1.trans x2)
  have z2 := (A2.ext (x1.trans x2)).lt
  go_upto_region 4 with fail
  obtain ⟨W2, hW2, y2, ZZ2, P0⟩ := boxes1 w2 53 [.bool false, .slice a1 (len m) c1]
  rw [← hW2]
  clear hW2
  have g2 : Ext W W2 := (x1.trans x2).trans y2
  obtain ⟨k0_0, k0_1, f0_0, f0_1⟩ := box2 A0 g2
  have z0 := (A0.ext g2).lt
  obtain ⟨k1_0, k1_1, f1_0, f1_1⟩ := box2 A1 g2
  have z1 := (A1.ext g2).lt
  obtain ⟨k2_0, k2_1, k2_2, f2_0, f2_1, f2_2⟩ := box3 A2 g2
  have z2 := (A2.ext g2).lt
  obtain ⟨p0_0, p0_1, q0_0, q0_1⟩ := box2 P0 (Ext.refl _)
  go_wp2_with fail
  have o1 := raw_one' W2
  have y3 : Ext W2 (W2.alloc (Obj.cells #[.int .u32 1] 122)) := (Ext.refl _).alloc _
  obtain ⟨l, hl, hv, hA⟩ := (r1.ext y2).ext y3
  obtain ⟨l', hl', hv', hA'⟩ := o1
  have hEq := r1_Equal _ _ _ _ _ l l' hA hA'
  have el' : l' = [1] := val_inj hA'.small (Small.one (by decide)) (by rw [hl']; rfl) (by rw [hv']; rfl)
  have el : ¬ l = l' := by
    intro h5
    rw [el'] at h5
    have := (limbs_one hA.small (by rw [hl, hv])).1 h5
    rw [hv] at this
    exact hm1 this
  rw [decide_eq_false el, hl, hl'] at hEq
  clear hA hA' hl hl' hv hv' el el'
  refine hEq.mono ?_
  rintro e w3 ⟨rfl, hq3⟩
  clear hEq
  have g3 : Ext W w3 := (g2.trans y3).trans hq3.ext
  obtain ⟨k0_0, k0_1, f0_0, f0_1⟩ := box2 A0 g3
  have z0 := (A0.ext g3).lt
  obtain ⟨k1_0, k1_1, f1_0, f1_1⟩ := box2 A1 g3
  have z1 := (A1.ext g3).lt
  obtain ⟨k2_0, k2_1, k2_2, f2_0, f2_1, f2_2⟩ := box3 A2 g3
  have z2 := (A2.ext g3).lt
  go_wp2_with fail
  refine (HG.out _ (x0.trans g3)).mono ?_
  rintro e w4 ⟨a4, c4, rfl, r4, x4⟩
  go_upto_region 7 with fail
  obtain ⟨W4, hW4, y4, ZZ4, P1⟩ := boxes1 w4 53 [.bool false, .slice a4 (len G) c4]
  rw [← hW4]
  clear hW4
  have g4 : Ext W W4 := (g3.trans x4).trans y4
  obtain ⟨k0_0, k0_1, f0_0, f0_1⟩ := box2 A0 g4
  have z0 := (A0.ext g4).lt
  obtain ⟨k1_0, k1_1, f1_0, f1_1⟩ := box2 A1 g4
  have z1 := (A1.ext g4).lt
  obtain ⟨k2_0, k2_1, k2_2, f2_0, f2_1, f2_2⟩ := box3 A2 g4
  have z2 := (A2.ext g4).lt
  obtain ⟨p1_0, p1_1, q1_0, q1_1⟩ := box2 P1 (Ext.refl _)
  go_wp2_with fail
  refine (HD1.out _ _ _ (x0.trans g4) (r4.ext y4)).mono ?_
  rintro e w5 ⟨a5, c5, a6, c6, rfl, r5, f5, x5⟩
  go_upto_region 8 with fail
  obtain ⟨W5, hW5, y5, ZZ5, P2, P3⟩ := boxes2 w5 53 [.bool sN, .slice a5 (len N) c5] 53 [.bool false, .slice a6 0 c6]
  rw [← hW5]
  clear hW5
  have g5 : Ext W W5 := (g4.trans x5).trans y5
  obtain ⟨k0_0, k0_1, f0_0, f0_1⟩ := box2 A0 g5
  have z0 := (A0.ext g5).lt
  obtain ⟨k1_0, k1_1, f1_0, f1_1⟩ := box2 A1 g5
  have z1 := (A1.ext g5).lt
  obtain ⟨k2_0, k2_1, k2_2, f2_0, f2_1, f2_2⟩ := box3 A2 g5
  have z2 := (A2.ext g5).lt
  obtain ⟨p1_0, p1_1, q1_0, q1_1⟩ := box2 P1 (x5.trans y5)
  obtain ⟨p2_0, p2_1, q2_0, q2_1⟩ := box2 P2 (Ext.refl _)
  go_wp2_with fail
  refine (HD2.out _ _ _ (x0.trans g5) (((r4.ext y4).ext x5).ext y5)).mono ?_
  rintro e w6 ⟨a7, c7, a8, c8, rfl, r7, f7, x6⟩
  go_upto_region 9 with fail
  obtain ⟨W6, hW6, y6, ZZ6, P4, P5⟩ := boxes2 w6 53 [.bool false, .slice a7 (len D) c7] 53 [.bool false, .slice a8 0 c8]
  rw [← hW6]
  clear hW6
  have g6 : Ext W W6 := (g5.trans x6).trans y6
  have v6 : Ext W5 W6 := x6.trans y6
  obtain ⟨k0_0, k0_1, f0_0, f0_1⟩ := box2 A0 g6
  have z0 := (A0.ext g6).lt
  obtain ⟨k1_0, k1_1, f1_0, f1_1⟩ := box2 A1 g6
  have z1 := (A1.ext g6).lt
  obtain ⟨k2_0, k2_1, k2_2, f2_0, f2_1, f2_2⟩ := box3 A2 g6
  have z2 := (A2.ext g6).lt
  obtain ⟨p2_0, p2_1, q2_0, q2_1⟩ := box2 P2 v6
  obtain ⟨p4_0, p4_1, q4_0, q4_1⟩ := box2 P4 (Ext.refl _)
  have zz := Z0.out
  go_wp2_with fail
  have rN : Raw W6 a5 (len q.num.natAbs) c5 q.num.natAbs := by rw [M1.out]; exact (r5.ext y5).ext v6
  have rD : Raw W6 a7 (len q.den) c7 q.den := by rw [M2.out]; exact r7.ext y6
  have fin : NewRat q W (.returned (.agg #[.bool (decide (q.num < 0)), .slice a5 (len q.num.natAbs) c5, .slice a7 (len q.den) c7])) W6 := ⟨_, _, _, _, rfl, rN, f5.mono g4.size, rD, f7.mono g5.size, g6⟩
  rw [M1.out, M2.out, M3.out, Bool.bne_false, ← HSN.out] at fin
  exact bodyPost_ret (by simp [results, Tryz.results75, go_sem, k2_0, k2_1, k2_2]) rfl (NewRat.touch fin x0 (Touch.three _ (by omega) (by omega) _ _ _))

set_option maxHeartbeats 2000000 in
set_option maxRecDepth 100000 in
/-- ref03.Make in general. -/
theorem r3_Make_true (w : World) (s t : Bool) (a b : Option Addr) (k c k' c' n m : Nat) (h : Raw w a k c n) (h' : Raw w b k' c' m) (ht : t = true) (hm : 0 < m) (b1 : k < 900000000) (b2 : k' < 900000000) :
    Calls Tryz.prog 75 #[.agg #[.bool s, .slice a k c], .agg #[.bool t, .slice b k' c']] w (NewRat (mkRat (sgn (s != t) n) m) w) := by
  have hS : ∀ V, Ext w V → Calls Tryz.prog 93 #[.agg #[.bool t, .slice b k' c']] V fun e w' => e = .returned (.int .i64 (sgn t m).sign) ∧ Ext V w' := fun V hV => r2_Sign V t b k' c' m (h'.ext hV)
  have hsn : ((sgn t m).sign == 0) = false := by
    rw [beq_eq_false_iff_ne]
    cases t with
    | true => rw [sgn_true, Int.sign_eq_neg_one_of_neg (by omega)]; decide
    | false => rw [sgn_false, Int.sign_eq_one_of_pos (by omega)]; decide
  generalize (sgn t m).sign = sg at hS hsn
  have hN : ∀ V, Ext w V → Calls Tryz.prog 90 #[.agg #[.bool t, .slice b k' c']] V fun e w' => ∃ a1 c1, e = .returned (.agg #[.bool t, .slice a1 (len m) c1]) ∧ Raw w' a1 (len m) c1 m ∧ Fr V.heap.size a1 ∧ Ext V w' := by
    intro V hV
    refine (r2_Norm V t b k' c' m (h'.ext hV)).mono ?_
    rintro e w' ⟨a1, c1, he, hr, hf, hx⟩
    rw [sgn_natAbs] at he hr
    rw [sgn_lt t m hm] at he
    exact ⟨a1, c1, he, hr, hf, hx⟩
  have HS := Lib.hid hS; have HN := Lib.hid hN; clear hS hN
  have hln := h.len_le
  have hlm := h'.len_le
  have hg0 : 0 < Nat.gcd n m := Nat.gcd_pos_of_pos_right _ hm
  have hgl : len (Nat.gcd n m) ≤ len m := len_mono (Nat.le_of_dvd hm (Nat.gcd_dvd_right n m))
  have hmg : 0 < m / Nat.gcd n m := Nat.div_pos (Nat.le_of_dvd hm (Nat.gcd_dvd_right n m)) hg0
  have hG : ∀ V, Ext w V → Calls Tryz.prog 139 #[.agg #[.bool s, .slice a k c], .agg #[.bool t, .slice b k' c']] V fun e w' => ∃ a1 c1, e = .returned (.agg #[.bool false, .slice a1 (len (Nat.gcd n m)) c1]) ∧ Raw w' a1 (len (Nat.gcd n m)) c1 (Nat.gcd n m) ∧ Ext V w' := by
    intro V hV
    refine (r2_GCD V s t a b k c k' c' n m (h.ext hV) (h'.ext hV) (by omega) (by omega)).mono ?_
    rintro e w' ⟨a1, c1, he, hr, hf, hx⟩
    rw [Int.natAbs_natCast] at he hr
    rw [decide_eq_false (by omega)] at he
    exact ⟨a1, c1, he, hr, hx⟩
  have hD : ∀ (V : World) (u : Bool) (a' : Option Addr) (j d x : Nat) (a2 : Option Addr) (c2 : Nat), Raw V a' j d x → j < 900000000 → x % Nat.gcd n m = 0 → Raw V a2 (len (Nat.gcd n m)) c2 (Nat.gcd n m) → Calls Tryz.prog 92 #[.agg #[.bool u, .slice a' j d], .agg #[.bool false, .slice a2 (len (Nat.gcd n m)) c2]] V fun e w' => ∃ a3 c3 a4 c4, e = .returned (.tuple #[.agg #[.bool (decide (sgn u (x / Nat.gcd n m) < 0)), .slice a3 (len (x / Nat.gcd n m)) c3], .agg #[.bool false, .slice a4 0 c4], .bool true]) ∧ Raw w' a3 (len (x / Nat.gcd n m)) c3 (x / Nat.gcd n m) ∧ Fr V.heap.size a3 ∧ Ext V w' := by
    intro V u a' j d x a2 c2 hR hj hx0 hR2
    have := r2_DivMod V u false a' a2 j d _ c2 x _ hR hR2 hg0 hj (by omega)
    obtain ⟨q1, q2⟩ := ediv_case (s := u) (t := false) (n := x) hg0 (Or.inr hx0)
    rw [q1, q2, hx0, Bool.bne_false] at this
    refine this.mono ?_
    rintro e w' ⟨a3, c3, a4, c4, he, hr3, hf3, hr4, hf4, hx⟩
    rw [sgn_natAbs] at he hr3
    exact ⟨a3, c3, a4, c4, he, hr3, hf3, hx⟩
  have hx1 : n % Nat.gcd n m = 0 := Nat.mod_eq_zero_of_dvd (Nat.gcd_dvd_left n m)
  have hx2 : m % Nat.gcd n m = 0 := Nat.mod_eq_zero_of_dvd (Nat.gcd_dvd_right n m)
  obtain ⟨m1, m2, m3⟩ := make_num s t n m hm
  obtain ⟨q, hq⟩ : ∃ q : Rat, q = mkRat (sgn (s != t) n) m := ⟨_, rfl⟩
  rw [← hq] at m1 m2 m3 ⊢
  have hdt := sgn_lt t _ hmg
  have hD2 : ∀ (V : World) (a2 : Option Addr) (c2 : Nat), Ext w V → Raw V a2 (len (Nat.gcd n m)) c2 (Nat.gcd n m) → Calls Tryz.prog 92 #[.agg #[.bool t, .slice b k' c'], .agg #[.bool false, .slice a2 (len (Nat.gcd n m)) c2]] V fun e w' => ∃ a3 c3 a4 c4, e = .returned (.tuple #[.agg #[.bool t, .slice a3 (len (m / Nat.gcd n m)) c3], .agg #[.bool false, .slice a4 0 c4], .bool true]) ∧ Raw w' a3 (len (m / Nat.gcd n m)) c3 (m / Nat.gcd n m) ∧ Fr V.heap.size a3 ∧ Ext V w' := by
    intro V a2 c2 hV hR2
    have := hD V t b k' c' m a2 c2 (h'.ext hV) b2 hx2 hR2
    rw [hdt] at this
    exact this
  have hD1 : ∀ (V : World) (a2 : Option Addr) (c2 : Nat), Ext w V → Raw V a2 (len (Nat.gcd n m)) c2 (Nat.gcd n m) → Calls Tryz.prog 92 #[.agg #[.bool s, .slice a k c], .agg #[.bool false, .slice a2 (len (Nat.gcd n m)) c2]] V fun e w' => ∃ a3 c3 a4 c4, e = .returned (.tuple #[.agg #[.bool (decide (sgn s (n / Nat.gcd n m) < 0)), .slice a3 (len (n / Nat.gcd n m)) c3], .agg #[.bool false, .slice a4 0 c4], .bool true]) ∧ Raw w' a3 (len (n / Nat.gcd n m)) c3 (n / Nat.gcd n m) ∧ Fr V.heap.size a3 ∧ Ext V w' := fun V a2 c2 hV hR2 => hD V s a k c n a2 c2 (h.ext hV) b1 hx1 hR2
  have hl1 := len_mono (Nat.div_le_self n (Nat.gcd n m))
  have hl2 := len_mono (Nat.div_le_self m (Nat.gcd n m))
  generalize n / Nat.gcd n m = N at *
  generalize m / Nat.gcd n m = D at *
  generalize Nat.gcd n m = G at *
  obtain ⟨sN, hsN⟩ : ∃ sN, sN = decide (sgn s N < 0) := ⟨_, rfl⟩
  rw [← hsN] at hD1
  have HG := Lib.hid hG; have HD1 := Lib.hid hD1; have HD2 := Lib.hid hD2
  have M1 := Lib.hid m1; have M2 := Lib.hid m2; have M3 := Lib.hid m3; have HSN := Lib.hid hsN; have HQ := Lib.hid hq
  clear hG hD hD1 hD2 hx1 hx2 m1 m2 m3 hq hdt hsN
  subst ht
  go_enter Tryz.func75, Tryz.ntmps75
  go_wp2_with fail
  obtain ⟨W, hW, x0, Z0, A0, A1, A2⟩ := boxes3 w 53 [.bool s, .slice a k c] 53 [.bool true, .slice b k' c'] 55 [.bool false, .slice none 0 0, .slice none 0 0]
  rw [← hW]
  clear hW
  obtain ⟨k0_0, k0_1, f0_0, f0_1⟩ := box2 A0 (Ext.refl _)
  have z0 := (A0.ext (Ext.refl _)).lt
  obtain ⟨k1_0, k1_1, f1_0, f1_1⟩ := box2 A1 (Ext.refl _)
  have z1 := (A1.ext (Ext.refl _)).lt
  obtain ⟨k2_0, k2_1, k2_2, f2_0, f2_1, f2_2⟩ := box3 A2 (Ext.refl _)
  have z2 := (A2.ext (Ext.refl _)).lt
  refine (HS.out _ x0).mono ?_
  rintro e w1 ⟨rfl, x1⟩
  obtain ⟨k0_0, k0_1, f0_0, f0_1⟩ := box2 A0 x1
  have z0 := (A0.ext x1).lt
  obtain ⟨k1_0, k1_1, f1_0, f1_1⟩ := box2 A1 x1
  have z1 := (A1.ext x1).lt
  obtain ⟨k2_0, k2_1, k2_2, f2_0, f2_1, f2_2⟩ := box3 A2 x1
  have z2 := (A2.ext x1).lt
  go_wp2_with fail
  refine (HN.out _ (x0.trans x1)).mono ?_
  rintro e w2 ⟨a1, c1, rfl, r1, f1, x2⟩
  obtain ⟨k0_0, k0_1, f0_0, f0_1⟩ := box2 A0 (x1.trans x2)
  have z0 := (A0.ext (x1.trans x2)).lt
  obtain ⟨k1_0, k1_1, f1_0, f1_1⟩ := box2 A1 (x1.trans x2)
  have z1 := (A1.ext (x1.trans x2)).lt
  obtain ⟨k2_0, k2_1, k2_2, f2_0, f2_1, f2_2⟩ := box3 A2 (x1.trans x2)
  have z2 := (A2.ext (x1.trans x2)).lt
  go_upto_region 4 with fail
  obtain ⟨W2, hW2, y2, ZZ2, P0⟩ := boxes1 w2 53 [.bool true, .slice a1 (len m) c1]
  rw [← hW2]
  clear hW2
  have g2 : Ext W W2 := (x1.trans x2).trans y2
  obtain ⟨k0_0, k0_1, f0_0, f0_1⟩ := box2 A0 g2
  have z0 := (A0.ext g2).lt
  obtain ⟨k1_0, k1_1, f1_0, f1_1⟩ := box2 A1 g2
  have z1 := (A1.ext g2).lt
  obtain ⟨k2_0, k2_1, k2_2, f2_0, f2_1, f2_2⟩ := box3 A2 g2
  have z2 := (A2.ext g2).lt
  obtain ⟨p0_0, p0_1, q0_0, q0_1⟩ := box2 P0 (Ext.refl _)
  obtain ⟨w3, hw3⟩ : ∃ w3 : World, w3 = W2 := ⟨_, rfl⟩
  have g3 : Ext W w3 := by rw [hw3]; exact g2
  rw [← hw3] at k0_0 k0_1 f0_0 f0_1 k1_0 k1_1 f1_0 f1_1 k2_0 k2_1 k2_2 f2_0 f2_1 f2_2 p0_0 p0_1 q0_0 q0_1 ⊢
  clear hw3
  go_wp2_with fail
  refine (HG.out _ (x0.trans g3)).mono ?_
  rintro e w4 ⟨a4, c4, rfl, r4, x4⟩
  go_upto_region 7 with fail
  obtain ⟨W4, hW4, y4, ZZ4, P1⟩ := boxes1 w4 53 [.bool false, .slice a4 (len G) c4]
  rw [← hW4]
  clear hW4
  have g4 : Ext W W4 := (g3.trans x4).trans y4
  obtain ⟨k0_0, k0_1, f0_0, f0_1⟩ := box2 A0 g4
  have z0 := (A0.ext g4).lt
  obtain ⟨k1_0, k1_1, f1_0, f1_1⟩ := box2 A1 g4
  have z1 := (A1.ext g4).lt
  obtain ⟨k2_0, k2_1, k2_2, f2_0, f2_1, f2_2⟩ := box3 A2 g4
  have z2 := (A2.ext g4).lt
  obtain ⟨p1_0, p1_1, q1_0, q1_1⟩ := box2 P1 (Ext.refl _)
  go_wp2_with fail
  refine (HD1.out _ _ _ (x0.trans g4) (r4.ext y4)).mono ?_
  rintro e w5 ⟨a5, c5, a6, c6, rfl, r5, f5, x5⟩
  go_upto_region 8 with fail
  obtain ⟨W5, hW5, y5, ZZ5, P2, P3⟩ := boxes2 w5 53 [.bool sN, .slice a5 (len N) c5] 53 [.bool false, .slice a6 0 c6]
  rw [← hW5]
  clear hW5
  have g5 : Ext W W5 := (g4.trans x5).trans y5
  obtain ⟨k0_0, k0_1, f0_0, f0_1⟩ := box2 A0 g5
  have z0 := (A0.ext g5).lt
  obtain ⟨k1_0, k1_1, f1_0, f1_1⟩ := box2 A1 g5
  have z1 := (A1.ext g5).lt
  obtain ⟨k2_0, k2_1, k2_2, f2_0, f2_1, f2_2⟩ := box3 A2 g5
  have z2 := (A2.ext g5).lt
  obtain ⟨p1_0, p1_1, q1_0, q1_1⟩ := box2 P1 (x5.trans y5)
  obtain ⟨p2_0, p2_1, q2_0, q2_1⟩ := box2 P2 (Ext.refl _)
  go_wp2_with fail
  refine (HD2.out _ _ _ (x0.trans g5) (((r4.ext y4).ext x5).ext y5)).mono ?_
  rintro e w6 ⟨a7, c7, a8, c8, rfl, r7, f7, x6⟩
  go_upto_region 9 with fail
  obtain ⟨W6, hW6, y6, ZZ6, P4, P5⟩ := boxes2 w6 53 [.bool true, .slice a7 (len D) c7] 53 [.bool false, .slice a8 0 c8]
  rw [← hW6]
  clear hW6
  have g6 : Ext W W6 := (g5.trans x6).trans y6
  have v6 : Ext W5 W6 := x6.trans y6
  obtain ⟨k0_0, k0_1, f0_0, f0_1⟩ := box2 A0 g6
  have z0 := (A0.ext g6).lt
  obtain ⟨k1_0, k1_1, f1_0, f1_1⟩ := box2 A1 g6
  have z1 := (A1.ext g6).lt
  obtain ⟨k2_0, k2_1, k2_2, f2_0, f2_1, f2_2⟩ := box3 A2 g6
  have z2 := (A2.ext g6).lt
  obtain ⟨p2_0, p2_1, q2_0, q2_1⟩ := box2 P2 v6
  obtain ⟨p4_0, p4_1, q4_0, q4_1⟩ := box2 P4 (Ext.refl _)
  have zz := Z0.out
  obtain ⟨sM, hsM⟩ : ∃ sM, sM = decide (sgn (s != true) N < 0) := ⟨_, rfl⟩
  have e5 : Ext w5 W6 := y5.trans v6
  have hN1 : ∀ V, Ext W6 V → Calls Tryz.prog 89 #[.agg #[.bool sN, .slice a5 (len N) c5]] V fun e w' => ∃ a9 c9, e = .returned (.agg #[.bool sM, .slice a9 (len N) c9]) ∧ Raw w' a9 (len N) c9 N ∧ Fr V.heap.size a9 ∧ Ext V w' := by
    intro V hV
    refine (r2_Neg V sN a5 _ c5 N ((r5.ext e5).ext hV)).mono ?_
    rintro e w' ⟨a9, c9, he, hr, hf, hx⟩
    have e1 : -sgn sN N = sgn (s != true) N := by
      have e2 := sgn_dec (sgn s N)
      rw [sgn_natAbs, ← HSN.out] at e2
      rw [e2, ← sgn_not]; cases s <;> rfl
    rw [e1] at he hr
    rw [sgn_natAbs] at he hr
    rw [← hsM] at he
    exact ⟨a9, c9, he, hr, hf, hx⟩
  have hN2 : ∀ V, Ext W6 V → Calls Tryz.prog 89 #[.agg #[.bool true, .slice a7 (len D) c7]] V fun e w' => ∃ a9 c9, e = .returned (.agg #[.bool false, .slice a9 (len D) c9]) ∧ Raw w' a9 (len D) c9 D ∧ Fr V.heap.size a9 ∧ Ext V w' := by
    intro V hV
    refine (r2_Neg V true a7 _ c7 D ((r7.ext y6).ext hV)).mono ?_
    rintro e w' ⟨a9, c9, he, hr, hf, hx⟩
    rw [← sgn_not, Bool.not_true] at he hr
    rw [sgn_natAbs] at he hr
    rw [sgn_lt false D hmg] at he
    exact ⟨a9, c9, he, hr, hf, hx⟩
  have HN1 := Lib.hid hN1; have HN2 := Lib.hid hN2; have HSM := Lib.hid hsM
  clear hN1 hN2 hsM
  have s45 : W.heap.size ≤ w5.heap.size := (g4.trans x5).size
  have s46 : W.heap.size ≤ w6.heap.size := (g5.trans x6).size
  have s56 : w5.heap.size < w6.heap.size := Nat.lt_of_lt_of_le P2.lt x6.size
  go_upto_region 10 with fail
  have tok1 : True := trivial
  go_cut [] (fun wx => ∃ a9 c9 a10 c10, Arr wx w5.heap.size 53 [.bool sM, .slice a9 (len N) c9] ∧ Arr wx w6.heap.size 53 [.bool false, .slice a10 (len D) c10] ∧ Raw wx a9 (len N) c9 N ∧ Raw wx a10 (len D) c10 D ∧ Fr W.heap.size a9 ∧ Fr W.heap.size a10 ∧ Ext W wx)
  case first =>
    go_region_with (first
      | (go_at_call 89; have _t := tok1; refine (HN1.out _ (by exact (Ext.refl _).drew)).mono ?_; rintro e w7 ⟨a9, c9, rfl, r9, f9, x7⟩; clear tok1 _t; obtain ⟨p2_0, p2_1, q2_0, q2_1⟩ := box2 P2 (v6.drew.trans x7); obtain ⟨p4_0, p4_1, q4_0, q4_1⟩ := box2 P4 ((Ext.refl _).drew.trans x7))
      | (go_at_call 89; refine (HN2.out _ (by exact (Ext.refl _).drew.trans x7)).mono ?_; rintro e w8 ⟨a10, c10, rfl, r10, f10, x8⟩; obtain ⟨p2_0, p2_1, q2_0, q2_1⟩ := box2 P2 (v6.drew.trans (x7.trans x8)); obtain ⟨p4_0, p4_1, q4_0, q4_1⟩ := box2 P4 ((Ext.refl _).drew.trans (x7.trans x8))))
    all_goals go_wp2_with fail
    all_goals go_meet
    all_goals have g8 : Ext W6 w8 := (Ext.refl _).drew.trans (x7.trans x8)
    all_goals have z9 : Fr (w6.heap.size + 1) a9 := f9.mono P4.lt
    all_goals have z10 : Fr (w6.heap.size + 1) a10 := f10.mono (Nat.le_trans P4.lt x7.size)
    all_goals exact ⟨a9, c9, a10, c10, (((P2.ext v6).ext g8).set2 _ _).other2 _ _ (by omega), ((P4.ext g8).other2 _ _ (by omega)).set2 _ _, (((((r9.ext x8).setCell _ _ (z9.ne (by simp only; omega))).setCell _ _ (z9.ne (by simp only; omega))).setCell _ _ (z9.ne (by simp only; omega))).setCell _ _ (z9.ne (by simp only; omega))), ((((r10.setCell _ _ (z10.ne (by simp only; omega))).setCell _ _ (z10.ne (by simp only; omega))).setCell _ _ (z10.ne (by simp only; omega))).setCell _ _ (z10.ne (by simp only; omega))), z9.mono (by omega), z10.mono (by omega), (((((g6.trans g8).setCell s45 _).setCell s45 _).setCell s46 _).setCell s46 _)⟩
  case rest =>
    obtain ⟨a9, c9, a10, c10, E7, E10, r9, r10, f9, f10, g9⟩ := hcut
    clear p2_0 p2_1 q2_0 q2_1 p4_0 p4_1 q4_0 q4_1
    obtain ⟨w9, rfl⟩ : ∃ w9 : World, w9 = wc := ⟨_, rfl⟩
    obtain ⟨k0_0, k0_1, f0_0, f0_1⟩ := box2 A0 g9
    have z0 := (A0.ext g9).lt
    obtain ⟨k1_0, k1_1, f1_0, f1_1⟩ := box2 A1 g9
    have z1 := (A1.ext g9).lt
    obtain ⟨k2_0, k2_1, k2_2, f2_0, f2_1, f2_2⟩ := box3 A2 g9
    have z2 := (A2.ext g9).lt
    obtain ⟨p2_0, p2_1, q2_0, q2_1⟩ := box2 E7 (Ext.refl _)
    obtain ⟨p4_0, p4_1, q4_0, q4_1⟩ := box2 E10 (Ext.refl _)
    go_wp2_with fail
    have rN : Raw w9 a9 (len q.num.natAbs) c9 q.num.natAbs := by rw [M1.out]; exact r9
    have rD : Raw w9 a10 (len q.den) c10 q.den := by rw [M2.out]; exact r10
    have fin : NewRat q W (.returned (.agg #[.bool (decide (q.num < 0)), .slice a9 (len q.num.natAbs) c9, .slice a10 (len q.den) c10])) w9 := ⟨_, _, _, _, rfl, rN, f9, rD, f10, g9⟩
    rw [M1.out, M2.out, M3.out, ← HSM.out] at fin
    exact bodyPost_ret (by simp [results, Tryz.results75, go_sem, k2_0, k2_1, k2_2]) rfl (NewRat.touch fin x0 (Touch.three _ (by omega) (by omega) _ _ _))

/-- ref03.Make. -/
theorem r3_Make (w : World) (s t : Bool) (a b : Option Addr) (k c k' c' n m : Nat) (h : Raw w a k c n) (h' : Raw w b k' c' m) (b1 : k < 900000000) (b2 : k' < 900000000) :
    Calls Tryz.prog 75 #[.agg #[.bool s, .slice a k c], .agg #[.bool t, .slice b k' c']] w (NewRat (mkRat (sgn (s != t) n) m) w) := by
  by_cases h0 : m = 0
  · exact r3_Make_zero w s t a b k c k' c' n m h h' h0
  · cases t with
    | true => exact r3_Make_true w s true a b k c k' c' n m h h' rfl (by omega) b1 b2
    | false =>
      by_cases h1 : m = 1
      · subst h1; exact r3_Make_one w s a b k c k' c' n h h'
      · exact r3_Make_false w s false a b k c k' c' n m h h' rfl (by omega) b1 b2 h1
end Go.Proofs.YtgihpfkjpfanmaaGreat


namespace Go.Proofs.YtgihpfkjpfanmaaGreat
open Go.RowKit

theorem Tryz.rat_num (s : Bool) (a b : Option Addr) (k c j d : Nat) (w : World) : (Instr.field 55 (.agg #[.bool s, .slice a k c, .slice b j d]) 0).run Tryz.prog w = .ok (.agg #[.bool s, .slice a k c]) w := by kernel_rfl
theorem Tryz.rat_den (s : Bool) (a b : Option Addr) (k c j d : Nat) (w : World) : (Instr.field 55 (.agg #[.bool s, .slice a k c, .slice b j d]) 1).run Tryz.prog w = .ok (.slice b j d) w := by kernel_rfl

/-- A call returns a new rational number with these parts. -/
def RatOf (s : Bool) (n m : Nat) (w : World) (e : Ending) (w' : World) : Prop := ∃ a c a' c', e = .returned (.agg #[.bool s, .slice a (len n) c, .slice a' (len m) c']) ∧ Raw w' a (len n) c n ∧ Fr w.heap.size a ∧ Raw w' a' (len m) c' m ∧ Fr w.heap.size a' ∧ Ext w w'
/-- A call returns a new integer with these parts. -/
def IntOf (s : Bool) (n : Nat) (w : World) (e : Ending) (w' : World) : Prop := ∃ a c, e = .returned (.agg #[.bool s, .slice a (len n) c]) ∧ Raw w' a (len n) c n ∧ Fr w.heap.size a ∧ Ext w w'

theorem NewRat.ratOf {q : Rat} {w w' : World} {e : Ending} (h : NewRat q w e w') : RatOf (decide (q.num < 0)) q.num.natAbs q.den w e w' := h
theorem RatOf.newRat {q : Rat} {w w' : World} {e : Ending} (h : RatOf (decide (q.num < 0)) q.num.natAbs q.den w e w') : NewRat q w e w' := h
theorem NewInt.intOf {z : Int} {w w' : World} {e : Ending} (h : NewInt z w e w') : IntOf (decide (z < 0)) z.natAbs w e w' := h

theorem RatOf.base {s : Bool} {n m : Nat} {W w1 w2 : World} {e : Ending} (h : RatOf s n m w1 e w2) (hx : Ext W w1) : RatOf s n m W e w2 := by
  obtain ⟨a, c, a', c', he, hr, hf, hr', hf', hx'⟩ := h
  exact ⟨a, c, a', c', he, hr, hf.mono hx.size, hr', hf'.mono hx.size, hx.trans hx'⟩
/-- .. and true. -/
def RatOfOk (s : Bool) (n m : Nat) (w : World) (e : Ending) (w' : World) : Prop := ∃ a c a' c', e = .returned (.tuple #[.agg #[.bool s, .slice a (len n) c, .slice a' (len m) c'], .bool true]) ∧ Raw w' a (len n) c n ∧ Fr w.heap.size a ∧ Raw w' a' (len m) c' m ∧ Fr w.heap.size a' ∧ Ext w w'
theorem RatOf.ok {s : Bool} {n m : Nat} {w w' : World} {a a' : Option Addr} {c c' : Nat} (h : RatOf s n m w (.returned (.agg #[.bool s, .slice a (len n) c, .slice a' (len m) c'])) w') : RatOfOk s n m w (.returned (.tuple #[.agg #[.bool s, .slice a (len n) c, .slice a' (len m) c'], .bool true])) w' := by
  obtain ⟨a1, c1, a2, c2, he, hr, hf, hr', hf', hx⟩ := h
  cases he
  exact ⟨_, _, _, _, rfl, hr, hf, hr', hf', hx⟩
theorem RatOf.touch' {s : Bool} {n m : Nat} {w W w1 w2 w3 : World} {e : Ending} (h : RatOf s n m w1 e w2) (hW : Ext w W) (h1 : Ext W w1) (t : Touch w.heap.size W.heap.size w2 w3) : RatOf s n m w e w3 := by
  obtain ⟨a, c, a', c', he, hr, hf, hr', hf', hx⟩ := h
  exact ⟨a, c, a', c', he, hr.touch t (hf.mono h1.size).out, hf.mono (Nat.le_trans hW.size h1.size), hr'.touch t (hf'.mono h1.size).out, hf'.mono (Nat.le_trans hW.size h1.size), hW.touch (h1.trans hx) t⟩
theorem RatOf.touch {s : Bool} {n m : Nat} {w W w2 w3 : World} {e : Ending} (h : RatOf s n m W e w2) (hW : Ext w W) (t : Touch w.heap.size W.heap.size w2 w3) : RatOf s n m w e w3 := by
  obtain ⟨a, c, a', c', he, hr, hf, hr', hf', hx⟩ := h
  exact ⟨a, c, a', c', he, hr.touch t hf.out, hf.mono hW.size, hr'.touch t hf'.out, hf'.mono hW.size, hW.touch hx t⟩
theorem IntOf.touch {s : Bool} {n : Nat} {w W w2 w3 : World} {e : Ending} (h : IntOf s n W e w2) (hW : Ext w W) (t : Touch w.heap.size W.heap.size w2 w3) : IntOf s n w e w3 := by
  obtain ⟨a, c, he, hr, hf, hx⟩ := h
  exact ⟨a, c, he, hr.touch t hf.out, hf.mono hW.size, hW.touch hx t⟩
theorem IntOf.base {s : Bool} {n : Nat} {W w1 w2 : World} {e : Ending} (h : IntOf s n w1 e w2) (hx : Ext W w1) : IntOf s n W e w2 := by
  obtain ⟨a, c, he, hr, hf, hx'⟩ := h
  exact ⟨a, c, he, hr, hf.mono hx.size, hx.trans hx'⟩

set_option maxHeartbeats 400000 in
set_option maxRecDepth 100000 in
/-- ref03.Norm. -/
theorem r3_Norm (w : World) (s : Bool) (a b : Option Addr) (k c j d n m : Nat) (h : Raw w a k c n) (g : Raw w b j d m) (b1 : k < 200000000) (b2 : j < 200000000) :
    Calls Tryz.prog 74 #[.agg #[.bool s, .slice a k c, .slice b j d]] w (NewRat (mkRat (sgn s n) m) w) := by
  have hM : ∀ V, Ext w V → Calls Tryz.prog 75 #[.agg #[.bool s, .slice a k c], .agg #[.bool false, .slice b j d]] V (NewRat (mkRat (sgn s n) m) V) := by
    intro V hV
    have := r3_Make V s false a b k c j d n m (h.ext hV) (g.ext hV) (by omega) (by omega)
    rw [Bool.bne_false] at this
    exact this
  have HM := Lib.hid hM; clear hM
  go_enter Tryz.func74, Tryz.ntmps74
  go_wp2_with fail
  obtain ⟨W, hW, x0, Z0, A0, A1⟩ := boxes2 w 55 [.bool s, .slice a k c, .slice b j d] 55 [.bool false, .slice none 0 0, .slice none 0 0]
  rw [← hW]
  clear hW
  obtain ⟨k0_0, k0_1, k0_2, f0_0, f0_1, f0_2⟩ := box3 A0 (Ext.refl _)
  have z0 := (A0.ext (Ext.refl _)).lt
  obtain ⟨k1_0, k1_1, k1_2, f1_0, f1_1, f1_2⟩ := box3 A1 (Ext.refl _)
  have z1 := (A1.ext (Ext.refl _)).lt
  refine (HM.out _ x0).mono ?_
  intro e w1 hN
  obtain ⟨a1, c1, a2, c2, rfl, r1, f1, r2, f2, x1⟩ := id hN
  obtain ⟨k0_0, k0_1, k0_2, f0_0, f0_1, f0_2⟩ := box3 A0 x1
  have z0 := (A0.ext x1).lt
  obtain ⟨k1_0, k1_1, k1_2, f1_0, f1_1, f1_2⟩ := box3 A1 x1
  have z1 := (A1.ext x1).lt
  go_wp2_with fail
  exact bodyPost_ret (by simp [results, Tryz.results74, go_sem, k1_0, k1_1, k1_2]) rfl (NewRat.touch hN x0 (Touch.three _ (by omega) (by rw [Z0.out]; omega) _ _ _))

set_option maxHeartbeats 400000 in
set_option maxRecDepth 100000 in
/-- ref03.den, over what Norm gives. -/
theorem r3_den_walk (w : World) (s : Bool) (a b : Option Addr) (k c j d _n _m : Nat) (sP : Bool) (nP dP : Nat) (hN : ∀ V, Ext w V → Calls Tryz.prog 74 #[.agg #[.bool s, .slice a k c, .slice b j d]] V (RatOf sP nP dP V)) :
    Calls Tryz.prog 78 #[.agg #[.bool s, .slice a k c, .slice b j d]] w (IntOf false dP w) := by
  have HN := Lib.hid hN; clear hN
  have fd1 := Tryz.rat_den
  go_enter Tryz.func78, Tryz.ntmps78
  go_wp2_with fail
  obtain ⟨W, hW, x0, Z0, A0, A1⟩ := boxes2 w 55 [.bool s, .slice a k c, .slice b j d] 53 [.bool false, .slice none 0 0]
  rw [← hW]
  clear hW
  obtain ⟨k0_0, k0_1, k0_2, f0_0, f0_1, f0_2⟩ := box3 A0 (Ext.refl _)
  have z0 := (A0.ext (Ext.refl _)).lt
  obtain ⟨k1_0, k1_1, f1_0, f1_1⟩ := box2 A1 (Ext.refl _)
  have z1 := (A1.ext (Ext.refl _)).lt
  refine (HN.out _ x0).mono ?_
  rintro e w1 ⟨a1, c1, a2, c2, rfl, r1, f1, r2, f2, x1⟩
  obtain ⟨k0_0, k0_1, k0_2, f0_0, f0_1, f0_2⟩ := box3 A0 x1
  have z0 := (A0.ext x1).lt
  obtain ⟨k1_0, k1_1, f1_0, f1_1⟩ := box2 A1 x1
  have z1 := (A1.ext x1).lt
  go_wp2_with fail
  have fin : IntOf false dP W (.returned (.agg #[.bool false, .slice a2 (len dP) c2])) w1 := ⟨_, _, rfl, r2, f2, x1⟩
  exact bodyPost_ret (by simp [results, Tryz.results78, go_sem, k1_0, k1_1]) rfl (IntOf.touch fin x0 (Touch.two _ (by omega) (by rw [Z0.out]; omega) _ _))
/-- ref03.den. -/
theorem r3_den (w : World) (s : Bool) (a b : Option Addr) (k c j d n m : Nat) (h : Raw w a k c n) (g : Raw w b j d m) (b1 : k < 200000000) (b2 : j < 200000000) :
    Calls Tryz.prog 78 #[.agg #[.bool s, .slice a k c, .slice b j d]] w (IntOf false (mkRat (sgn s n) m).den w) :=
  r3_den_walk w s a b k c j d n m (decide ((mkRat (sgn s n) m).num < 0)) (mkRat (sgn s n) m).num.natAbs (mkRat (sgn s n) m).den (fun V hV => (r3_Norm V s a b k c j d n m (h.ext hV) (g.ext hV) b1 b2).mono (fun _ _ hh => hh.ratOf))

set_option maxHeartbeats 400000 in
set_option maxRecDepth 100000 in
theorem r3_Sign_walk (w : World) (s : Bool) (a b : Option Addr) (k c j d _n _m : Nat) (sP : Bool) (nP dP : Nat) (z : Int) (hN : ∀ V, Ext w V → Calls Tryz.prog 74 #[.agg #[.bool s, .slice a k c, .slice b j d]] V (RatOf sP nP dP V))
    (hS : ∀ V a c, Raw V a (len nP) c nP → Calls Tryz.prog 93 #[.agg #[.bool sP, .slice a (len nP) c]] V fun e w' => e = .returned (.int .i64 z) ∧ Ext V w') :
    Calls Tryz.prog 43 #[.agg #[.bool s, .slice a k c, .slice b j d]] w fun e w' => e = .returned (.int .i64 z) ∧ Ext w w' := by
  have HN := Lib.hid hN; have HS := Lib.hid hS; clear hN hS
  have fd0 := Tryz.rat_num
  go_enter Tryz.func43, Tryz.ntmps43
  go_wp2_with fail
  obtain ⟨W, hW, x0, Z0, A0⟩ := boxes1 w 55 [.bool s, .slice a k c, .slice b j d]
  rw [← hW]
  clear hW
  obtain ⟨k0_0, k0_1, k0_2, f0_0, f0_1, f0_2⟩ := box3 A0 (Ext.refl _)
  have z0 := (A0.ext (Ext.refl _)).lt
  refine (HN.out _ x0).mono ?_
  rintro e w1 ⟨a1, c1, a2, c2, rfl, r1, f1, r2, f2, x1⟩
  go_wp2_with fail
  refine (HS.out _ _ _ r1).mono ?_
  rintro e w2 ⟨rfl, x2⟩
  go_wp2_with fail
  go_ret
  exact ⟨rfl, (x0.trans x1).trans x2⟩
/-- ref03.Sign. -/
theorem r3_Sign (w : World) (s : Bool) (a b : Option Addr) (k c j d n m : Nat) (h : Raw w a k c n) (g : Raw w b j d m) (b1 : k < 200000000) (b2 : j < 200000000) :
    Calls Tryz.prog 43 #[.agg #[.bool s, .slice a k c, .slice b j d]] w fun e w' => e = .returned (.int .i64 (mkRat (sgn s n) m).num.sign) ∧ Ext w w' :=
  r3_Sign_walk w s a b k c j d n m (decide ((mkRat (sgn s n) m).num < 0)) (mkRat (sgn s n) m).num.natAbs (mkRat (sgn s n) m).den _ (fun V hV => (r3_Norm V s a b k c j d n m (h.ext hV) (g.ext hV) b1 b2).mono (fun _ _ hh => hh.ratOf))
    (fun V a c hR => by
      have := r2_Sign V (decide ((mkRat (sgn s n) m).num < 0)) a _ c _ hR
      rw [sgn_dec] at this
      exact this)

set_option maxHeartbeats 400000 in
theorem r3_FromInt_walk (w : World) (x : Int) (s1 s2 s : Bool) (n1 n2 n m : Nat) (h1 : ∀ V, Calls Tryz.prog 79 #[.int .i64 x] V (IntOf s1 n1 V)) (h2 : ∀ V, Calls Tryz.prog 79 #[.int .i64 1] V (IntOf s2 n2 V))
    (h3 : ∀ V a c b d, Raw V a (len n1) c n1 → Raw V b (len n2) d n2 → Calls Tryz.prog 75 #[.agg #[.bool s1, .slice a (len n1) c], .agg #[.bool s2, .slice b (len n2) d]] V (RatOf s n m V)) :
    Calls Tryz.prog 32 #[.int .i64 x] w (RatOf s n m w) := by
  have H1 := Lib.hid h1; have H2 := Lib.hid h2; have H3 := Lib.hid h3; clear h1 h2 h3
  go_enter Tryz.func32, Tryz.ntmps32
  go_wp2_with fail
  obtain ⟨W, hW, x0, Z0, A0⟩ := boxes1 w 55 [.bool false, .slice none 0 0, .slice none 0 0]
  rw [← hW]
  clear hW
  obtain ⟨k0_0, k0_1, k0_2, f0_0, f0_1, f0_2⟩ := box3 A0 (Ext.refl _)
  have z0 := (A0.ext (Ext.refl _)).lt
  refine (H1.out _).mono ?_
  rintro e w1 ⟨a1, c1, rfl, r1, f1, x1⟩
  obtain ⟨k0_0, k0_1, k0_2, f0_0, f0_1, f0_2⟩ := box3 A0 x1
  have z0 := (A0.ext x1).lt
  go_wp2_with fail
  refine (H2.out _).mono ?_
  rintro e w2 ⟨a2, c2, rfl, r2, f2, x2⟩
  obtain ⟨k0_0, k0_1, k0_2, f0_0, f0_1, f0_2⟩ := box3 A0 (x1.trans x2)
  have z0 := (A0.ext (x1.trans x2)).lt
  go_wp2_with fail
  refine (H3.out _ _ _ _ _ (r1.ext x2) r2).mono ?_
  intro e w3 hN
  obtain ⟨a3, c3, a4, c4, rfl, r3, f3, r4, f4, x3⟩ := id hN
  obtain ⟨k0_0, k0_1, k0_2, f0_0, f0_1, f0_2⟩ := box3 A0 ((x1.trans x2).trans x3)
  have z0 := (A0.ext ((x1.trans x2).trans x3)).lt
  go_wp2_with fail
  exact bodyPost_ret (by simp [results, Tryz.results32, go_sem, k0_0, k0_1, k0_2]) rfl (RatOf.touch (hN.base (x1.trans x2)) x0 (Touch.three _ (by omega) (by rw [Z0.out]; omega) _ _ _))

/-- ref03.FromInt. -/
theorem r3_FromInt (w : World) (x : Int) (h1 : -9223372036854775808 ≤ x) (h2 : x ≤ 9223372036854775807) :
    Calls Tryz.prog 32 #[.int .i64 x] w (NewRat (x : Rat) w) :=
  r3_FromInt_walk w x _ _ _ _ _ _ _ (fun V => r2_FromInt V x h1 h2) (fun V => r2_FromInt V 1 (by decide) (by decide))
    (fun V a c b d hR hR' => by
      have := r3_Make V (decide (x < 0)) (decide ((1 : Int) < 0)) a b _ c _ d _ _ hR hR' (by have := len_natAbs_i64 h1 h2; omega) (by decide)
      rw [show decide ((1 : Int) < 0) = false from rfl, Bool.bne_false, sgn_dec, show (Int.natAbs 1) = 1 from rfl, Rat.mkRat_one] at this
      exact this)

set_option maxHeartbeats 400000 in
theorem r3_Of_walk (w : World) (x y : Int) (s1 s2 s : Bool) (n1 n2 n m : Nat) (h1 : ∀ V, Calls Tryz.prog 79 #[.int .i64 x] V (IntOf s1 n1 V)) (h2 : ∀ V, Calls Tryz.prog 79 #[.int .i64 y] V (IntOf s2 n2 V))
    (h3 : ∀ V a c b d, Raw V a (len n1) c n1 → Raw V b (len n2) d n2 → Calls Tryz.prog 75 #[.agg #[.bool s1, .slice a (len n1) c], .agg #[.bool s2, .slice b (len n2) d]] V (RatOf s n m V)) :
    Calls Tryz.prog 39 #[.int .i64 x, .int .i64 y] w (RatOf s n m w) := by
  have H1 := Lib.hid h1; have H2 := Lib.hid h2; have H3 := Lib.hid h3; clear h1 h2 h3
  go_enter Tryz.func39, Tryz.ntmps39
  go_wp2_with fail
  obtain ⟨W, hW, x0, Z0, A0⟩ := boxes1 w 55 [.bool false, .slice none 0 0, .slice none 0 0]
  rw [← hW]
  clear hW
  obtain ⟨k0_0, k0_1, k0_2, f0_0, f0_1, f0_2⟩ := box3 A0 (Ext.refl _)
  have z0 := (A0.ext (Ext.refl _)).lt
  refine (H1.out _).mono ?_
  rintro e w1 ⟨a1, c1, rfl, r1, f1, x1⟩
  obtain ⟨k0_0, k0_1, k0_2, f0_0, f0_1, f0_2⟩ := box3 A0 x1
  have z0 := (A0.ext x1).lt
  go_wp2_with fail
  refine (H2.out _).mono ?_
  rintro e w2 ⟨a2, c2, rfl, r2, f2, x2⟩
  obtain ⟨k0_0, k0_1, k0_2, f0_0, f0_1, f0_2⟩ := box3 A0 (x1.trans x2)
  have z0 := (A0.ext (x1.trans x2)).lt
  go_wp2_with fail
  refine (H3.out _ _ _ _ _ (r1.ext x2) r2).mono ?_
  intro e w3 hN
  obtain ⟨a3, c3, a4, c4, rfl, r3, f3, r4, f4, x3⟩ := id hN
  obtain ⟨k0_0, k0_1, k0_2, f0_0, f0_1, f0_2⟩ := box3 A0 ((x1.trans x2).trans x3)
  have z0 := (A0.ext ((x1.trans x2).trans x3)).lt
  go_wp2_with fail
  exact bodyPost_ret (by simp [results, Tryz.results39, go_sem, k0_0, k0_1, k0_2]) rfl (RatOf.touch (hN.base (x1.trans x2)) x0 (Touch.three _ (by omega) (by rw [Z0.out]; omega) _ _ _))

/-- ref03.Of. -/
theorem r3_Of (w : World) (x : Int) (y : Nat) (h1 : -9223372036854775808 ≤ x) (h2 : x ≤ 9223372036854775807) (h3 : y ≤ 9223372036854775807) :
    Calls Tryz.prog 39 #[.int .i64 x, .int .i64 (y : Nat)] w (NewRat (mkRat x y) w) :=
  r3_Of_walk w x y _ _ _ _ _ _ _ (fun V => r2_FromInt V x h1 h2) (fun V => r2_FromInt V y (by omega) (by omega))
    (fun V a c b d hR hR' => by
      have := r3_Make V (decide (x < 0)) (decide ((y : Int) < 0)) a b _ c _ d _ _ hR hR' (by have := len_natAbs_i64 h1 h2; omega) (by have := len_natAbs_i64 (z := (y : Int)) (by omega) (by omega); omega)
      rw [decide_eq_false (show ¬ (y : Int) < 0 by omega), Bool.bne_false, sgn_dec, Int.natAbs_natCast] at this
      rw [decide_eq_false (show ¬ (y : Int) < 0 by omega), Int.natAbs_natCast]
      exact this)

set_option maxHeartbeats 2000000 in
set_option maxRecDepth 100000 in
/-- ref03.Neg, over its callees. -/
theorem r3_Neg_walk (w : World) (s : Bool) (a b : Option Addr) (k c j d : Nat) (sP s1 sR : Bool) (nP dP n1 nR dR : Nat) (hN : ∀ V, Ext w V → Calls Tryz.prog 74 #[.agg #[.bool s, .slice a k c, .slice b j d]] V (RatOf sP nP dP V)) (hD : ∀ V, Ext w V → Calls Tryz.prog 78 #[.agg #[.bool s, .slice a k c, .slice b j d]] V (IntOf false dP V)) (hI : ∀ V a c, Raw V a (len nP) c nP → Calls Tryz.prog 89 #[.agg #[.bool sP, .slice a (len nP) c]] V (IntOf s1 n1 V)) (hM : ∀ V a c b d, Raw V a (len n1) c n1 → Raw V b (len dP) d dP → Calls Tryz.prog 75 #[.agg #[.bool s1, .slice a (len n1) c], .agg #[.bool false, .slice b (len dP) d]] V (RatOf sR nR dR V)) :
    Calls Tryz.prog 37 #[.agg #[.bool s, .slice a k c, .slice b j d]] w (RatOf sR nR dR w) := by
  have HN := Lib.hid hN; have HD := Lib.hid hD; have HI := Lib.hid hI; have HM := Lib.hid hM; clear hN hD hI hM
  have fd0 := Tryz.rat_num
  have fd1 := Tryz.rat_den
  go_enter Tryz.func37, Tryz.ntmps37
  go_wp2_with fail
  obtain ⟨W, hW, x0, Z0, A0, A1⟩ := boxes2 w 55 [.bool s, .slice a k c, .slice b j d] 55 [.bool false, .slice none 0 0, .slice none 0 0]
  rw [← hW]
  clear hW
  obtain ⟨k0_0, k0_1, k0_2, f0_0, f0_1, f0_2⟩ := box3 A0 (Ext.refl _)
  have z0 := (A0.ext (Ext.refl _)).lt
  obtain ⟨k1_0, k1_1, k1_2, f1_0, f1_1, f1_2⟩ := box3 A1 (Ext.refl _)
  have z1 := (A1.ext (Ext.refl _)).lt
  go_region_held3 (fun w' => w'.cell? ⟨w.heap.size, 0, none⟩ = some (.bool s) ∧ w'.cell? ⟨w.heap.size, 1, none⟩ = some (.slice a k c) ∧ w'.cell? ⟨w.heap.size, 2, none⟩ = some (.slice b j d)) (first | exact ⟨k0_0, k0_1, k0_2⟩ | (simp [go_sem, k0_0, k0_1, k0_2])) (first
    | (go_at_call 74; refine (HN.out _ (by exact x0.trans ((Ext.refl _).drew))).mono ?_; rintro e w1 ⟨a1, c1, b1, d1, rfl, r1, f1, q1, g1, x1⟩; obtain ⟨k0_0, k0_1, k0_2, f0_0, f0_1, f0_2⟩ := box3 A0 (((Ext.refl _).drew).trans x1); have z0 := (A0.ext (((Ext.refl _).drew).trans x1)).lt; obtain ⟨k1_0, k1_1, k1_2, f1_0, f1_1, f1_2⟩ := box3 A1 (((Ext.refl _).drew).trans x1); have z1 := (A1.ext (((Ext.refl _).drew).trans x1)).lt)
    | (go_at_call 89; refine (HI.out _ _ _ r1).mono ?_; rintro e w2 ⟨a2, c2, rfl, r2, f2, x2⟩; obtain ⟨k0_0, k0_1, k0_2, f0_0, f0_1, f0_2⟩ := box3 A0 ((((Ext.refl _).drew).trans x1).trans x2); have z0 := (A0.ext ((((Ext.refl _).drew).trans x1).trans x2)).lt; obtain ⟨k1_0, k1_1, k1_2, f1_0, f1_1, f1_2⟩ := box3 A1 ((((Ext.refl _).drew).trans x1).trans x2); have z1 := (A1.ext ((((Ext.refl _).drew).trans x1).trans x2)).lt)
    | (go_at_call 78; refine (HD.out _ (by exact x0.trans ((((Ext.refl _).drew).trans x1).trans x2))).mono ?_; rintro e w3 ⟨a3, c3, rfl, r3, f3, x3⟩; obtain ⟨k0_0, k0_1, k0_2, f0_0, f0_1, f0_2⟩ := box3 A0 (((((Ext.refl _).drew).trans x1).trans x2).trans x3); have z0 := (A0.ext (((((Ext.refl _).drew).trans x1).trans x2).trans x3)).lt; obtain ⟨k1_0, k1_1, k1_2, f1_0, f1_1, f1_2⟩ := box3 A1 (((((Ext.refl _).drew).trans x1).trans x2).trans x3); have z1 := (A1.ext (((((Ext.refl _).drew).trans x1).trans x2).trans x3)).lt)
    | (go_at_call 75; refine (HM.out _ _ _ _ _ (r2.ext x3) r3).mono ?_; intro e w4 hfin; obtain ⟨a4, c4, b4, d4, rfl, r4, f4, q4, g4, x4⟩ := id hfin; obtain ⟨k0_0, k0_1, k0_2, f0_0, f0_1, f0_2⟩ := box3 A0 ((((((Ext.refl _).drew).trans x1).trans x2).trans x3).trans x4); have z0 := (A0.ext ((((((Ext.refl _).drew).trans x1).trans x2).trans x3).trans x4)).lt; obtain ⟨k1_0, k1_1, k1_2, f1_0, f1_1, f1_2⟩ := box3 A1 ((((((Ext.refl _).drew).trans x1).trans x2).trans x3).trans x4); have z1 := (A1.ext ((((((Ext.refl _).drew).trans x1).trans x2).trans x3).trans x4)).lt))
  go_wp2_with fail
  exact bodyPost_ret (by simp [results, Tryz.results37, go_sem, k1_0, k1_1, k1_2]) rfl (RatOf.touch (hfin.base ((x1.trans x2).trans x3)) x0.drew (Touch.three _ (by omega) (by rw [World.drew, Z0.out]; omega) _ _ _))

set_option maxHeartbeats 2000000 in
set_option maxRecDepth 100000 in
/-- ref03.Mul, over its callees. -/
theorem r3_Mul_walk (w : World) (s : Bool) (a b : Option Addr) (k c j d : Nat) (s' : Bool) (a' b' : Option Addr) (k' c' j' d' : Nat) (sP sQ s1 s2 sR : Bool) (nP dP nQ dQ n1 n2 nR dR : Nat) (hN : ∀ V, Ext w V → Calls Tryz.prog 74 #[.agg #[.bool s, .slice a k c, .slice b j d]] V (RatOf sP nP dP V)) (hN' : ∀ V, Ext w V → Calls Tryz.prog 74 #[.agg #[.bool s', .slice a' k' c', .slice b' j' d']] V (RatOf sQ nQ dQ V)) (hD : ∀ V, Ext w V → Calls Tryz.prog 78 #[.agg #[.bool s, .slice a k c, .slice b j d]] V (IntOf false dP V)) (hD' : ∀ V, Ext w V → Calls Tryz.prog 78 #[.agg #[.bool s', .slice a' k' c', .slice b' j' d']] V (IntOf false dQ V)) (hX : ∀ V a c b d, Raw V a (len nP) c nP → Raw V b (len nQ) d nQ → Calls Tryz.prog 77 #[.agg #[.bool sP, .slice a (len nP) c], .agg #[.bool sQ, .slice b (len nQ) d]] V (IntOf s1 n1 V)) (hY : ∀ V a c b d, Raw V a (len dP) c dP → Raw V b (len dQ) d dQ → Calls Tryz.prog 77 #[.agg #[.bool false, .slice a (len dP) c], .agg #[.bool false, .slice b (len dQ) d]] V (IntOf s2 n2 V)) (hM : ∀ V a c b d, Raw V a (len n1) c n1 → Raw V b (len n2) d n2 → Calls Tryz.prog 75 #[.agg #[.bool s1, .slice a (len n1) c], .agg #[.bool s2, .slice b (len n2) d]] V (RatOf sR nR dR V)) :
    Calls Tryz.prog 31 #[.agg #[.bool s, .slice a k c, .slice b j d], .agg #[.bool s', .slice a' k' c', .slice b' j' d']] w (RatOf sR nR dR w) := by
  have HN := Lib.hid hN; have HN' := Lib.hid hN'; have HD := Lib.hid hD; have HD' := Lib.hid hD'; have HX := Lib.hid hX; have HY := Lib.hid hY; have HM := Lib.hid hM; clear hN hN' hD hD' hX hY hM
  have fd0 := Tryz.rat_num
  have fd1 := Tryz.rat_den
  go_enter Tryz.func31, Tryz.ntmps31
  go_wp2_with fail
  obtain ⟨W, hW, x0, Z0, A0, A1, A2⟩ := boxes3 w 55 [.bool s, .slice a k c, .slice b j d] 55 [.bool s', .slice a' k' c', .slice b' j' d'] 55 [.bool false, .slice none 0 0, .slice none 0 0]
  rw [← hW]
  clear hW
  obtain ⟨k0_0, k0_1, k0_2, f0_0, f0_1, f0_2⟩ := box3 A0 (Ext.refl _)
  have z0 := (A0.ext (Ext.refl _)).lt
  obtain ⟨k1_0, k1_1, k1_2, f1_0, f1_1, f1_2⟩ := box3 A1 (Ext.refl _)
  have z1 := (A1.ext (Ext.refl _)).lt
  obtain ⟨k2_0, k2_1, k2_2, f2_0, f2_1, f2_2⟩ := box3 A2 (Ext.refl _)
  have z2 := (A2.ext (Ext.refl _)).lt
  have tk1 : True := trivial
  have tk3 : True := trivial
  have tk4 : True := trivial
  go_region_held3 (fun w' => w'.cell? ⟨w.heap.size, 0, none⟩ = some (.bool s) ∧ w'.cell? ⟨w.heap.size, 1, none⟩ = some (.slice a k c) ∧ w'.cell? ⟨w.heap.size, 2, none⟩ = some (.slice b j d) ∧ w'.cell? ⟨w.heap.size + 1, 0, none⟩ = some (.bool s') ∧ w'.cell? ⟨w.heap.size + 1, 1, none⟩ = some (.slice a' k' c') ∧ w'.cell? ⟨w.heap.size + 1, 2, none⟩ = some (.slice b' j' d')) (first | exact ⟨k0_0, k0_1, k0_2, k1_0, k1_1, k1_2⟩ | (simp [go_sem, k0_0, k0_1, k0_2, k1_0, k1_1, k1_2])) (first
    | (go_at_call 74; have _t := tk1; refine (HN.out _ (by exact x0.trans ((Ext.refl _).drew))).mono ?_; rintro e w1 ⟨a1, c1, b1, d1, rfl, r1, f1, q1, g1, x1⟩; clear tk1 _t; obtain ⟨k0_0, k0_1, k0_2, f0_0, f0_1, f0_2⟩ := box3 A0 (((Ext.refl _).drew).trans x1); have z0 := (A0.ext (((Ext.refl _).drew).trans x1)).lt; obtain ⟨k1_0, k1_1, k1_2, f1_0, f1_1, f1_2⟩ := box3 A1 (((Ext.refl _).drew).trans x1); have z1 := (A1.ext (((Ext.refl _).drew).trans x1)).lt; obtain ⟨k2_0, k2_1, k2_2, f2_0, f2_1, f2_2⟩ := box3 A2 (((Ext.refl _).drew).trans x1); have z2 := (A2.ext (((Ext.refl _).drew).trans x1)).lt)
    | (go_at_call 74; refine (HN'.out _ (by exact x0.trans (((Ext.refl _).drew).trans x1))).mono ?_; rintro e w2 ⟨a2, c2, b2, d2, rfl, r2, f2, q2, g2, x2⟩; obtain ⟨k0_0, k0_1, k0_2, f0_0, f0_1, f0_2⟩ := box3 A0 ((((Ext.refl _).drew).trans x1).trans x2); have z0 := (A0.ext ((((Ext.refl _).drew).trans x1).trans x2)).lt; obtain ⟨k1_0, k1_1, k1_2, f1_0, f1_1, f1_2⟩ := box3 A1 ((((Ext.refl _).drew).trans x1).trans x2); have z1 := (A1.ext ((((Ext.refl _).drew).trans x1).trans x2)).lt; obtain ⟨k2_0, k2_1, k2_2, f2_0, f2_1, f2_2⟩ := box3 A2 ((((Ext.refl _).drew).trans x1).trans x2); have z2 := (A2.ext ((((Ext.refl _).drew).trans x1).trans x2)).lt)
    | (go_at_call 77; have _t := tk3; refine (HX.out _ _ _ _ _ (r1.ext x2) r2).mono ?_; rintro e w3 ⟨a3, c3, rfl, r3, f3, x3⟩; clear tk3 _t; obtain ⟨k0_0, k0_1, k0_2, f0_0, f0_1, f0_2⟩ := box3 A0 (((((Ext.refl _).drew).trans x1).trans x2).trans x3); have z0 := (A0.ext (((((Ext.refl _).drew).trans x1).trans x2).trans x3)).lt; obtain ⟨k1_0, k1_1, k1_2, f1_0, f1_1, f1_2⟩ := box3 A1 (((((Ext.refl _).drew).trans x1).trans x2).trans x3); have z1 := (A1.ext (((((Ext.refl _).drew).trans x1).trans x2).trans x3)).lt; obtain ⟨k2_0, k2_1, k2_2, f2_0, f2_1, f2_2⟩ := box3 A2 (((((Ext.refl _).drew).trans x1).trans x2).trans x3); have z2 := (A2.ext (((((Ext.refl _).drew).trans x1).trans x2).trans x3)).lt)
    | (go_at_call 78; have _t := tk4; refine (HD.out _ (by exact x0.trans (((((Ext.refl _).drew).trans x1).trans x2).trans x3))).mono ?_; rintro e w4 ⟨a4, c4, rfl, r4, f4, x4⟩; clear tk4 _t; obtain ⟨k0_0, k0_1, k0_2, f0_0, f0_1, f0_2⟩ := box3 A0 ((((((Ext.refl _).drew).trans x1).trans x2).trans x3).trans x4); have z0 := (A0.ext ((((((Ext.refl _).drew).trans x1).trans x2).trans x3).trans x4)).lt; obtain ⟨k1_0, k1_1, k1_2, f1_0, f1_1, f1_2⟩ := box3 A1 ((((((Ext.refl _).drew).trans x1).trans x2).trans x3).trans x4); have z1 := (A1.ext ((((((Ext.refl _).drew).trans x1).trans x2).trans x3).trans x4)).lt; obtain ⟨k2_0, k2_1, k2_2, f2_0, f2_1, f2_2⟩ := box3 A2 ((((((Ext.refl _).drew).trans x1).trans x2).trans x3).trans x4); have z2 := (A2.ext ((((((Ext.refl _).drew).trans x1).trans x2).trans x3).trans x4)).lt)
    | (go_at_call 78; refine (HD'.out _ (by exact x0.trans ((((((Ext.refl _).drew).trans x1).trans x2).trans x3).trans x4))).mono ?_; rintro e w5 ⟨a5, c5, rfl, r5, f5, x5⟩; obtain ⟨k0_0, k0_1, k0_2, f0_0, f0_1, f0_2⟩ := box3 A0 (((((((Ext.refl _).drew).trans x1).trans x2).trans x3).trans x4).trans x5); have z0 := (A0.ext (((((((Ext.refl _).drew).trans x1).trans x2).trans x3).trans x4).trans x5)).lt; obtain ⟨k1_0, k1_1, k1_2, f1_0, f1_1, f1_2⟩ := box3 A1 (((((((Ext.refl _).drew).trans x1).trans x2).trans x3).trans x4).trans x5); have z1 := (A1.ext (((((((Ext.refl _).drew).trans x1).trans x2).trans x3).trans x4).trans x5)).lt; obtain ⟨k2_0, k2_1, k2_2, f2_0, f2_1, f2_2⟩ := box3 A2 (((((((Ext.refl _).drew).trans x1).trans x2).trans x3).trans x4).trans x5); have z2 := (A2.ext (((((((Ext.refl _).drew).trans x1).trans x2).trans x3).trans x4).trans x5)).lt)
    | (go_at_call 77; refine (HY.out _ _ _ _ _ (r4.ext x5) r5).mono ?_; rintro e w6 ⟨a6, c6, rfl, r6, f6, x6⟩; obtain ⟨k0_0, k0_1, k0_2, f0_0, f0_1, f0_2⟩ := box3 A0 ((((((((Ext.refl _).drew).trans x1).trans x2).trans x3).trans x4).trans x5).trans x6); have z0 := (A0.ext ((((((((Ext.refl _).drew).trans x1).trans x2).trans x3).trans x4).trans x5).trans x6)).lt; obtain ⟨k1_0, k1_1, k1_2, f1_0, f1_1, f1_2⟩ := box3 A1 ((((((((Ext.refl _).drew).trans x1).trans x2).trans x3).trans x4).trans x5).trans x6); have z1 := (A1.ext ((((((((Ext.refl _).drew).trans x1).trans x2).trans x3).trans x4).trans x5).trans x6)).lt; obtain ⟨k2_0, k2_1, k2_2, f2_0, f2_1, f2_2⟩ := box3 A2 ((((((((Ext.refl _).drew).trans x1).trans x2).trans x3).trans x4).trans x5).trans x6); have z2 := (A2.ext ((((((((Ext.refl _).drew).trans x1).trans x2).trans x3).trans x4).trans x5).trans x6)).lt)
    | (go_at_call 75; refine (HM.out _ _ _ _ _ (((r3.ext x4).ext x5).ext x6) r6).mono ?_; intro e w7 hfin; obtain ⟨a7, c7, b7, d7, rfl, r7, f7, q7, g7, x7⟩ := id hfin; obtain ⟨k0_0, k0_1, k0_2, f0_0, f0_1, f0_2⟩ := box3 A0 (((((((((Ext.refl _).drew).trans x1).trans x2).trans x3).trans x4).trans x5).trans x6).trans x7); have z0 := (A0.ext (((((((((Ext.refl _).drew).trans x1).trans x2).trans x3).trans x4).trans x5).trans x6).trans x7)).lt; obtain ⟨k1_0, k1_1, k1_2, f1_0, f1_1, f1_2⟩ := box3 A1 (((((((((Ext.refl _).drew).trans x1).trans x2).trans x3).trans x4).trans x5).trans x6).trans x7); have z1 := (A1.ext (((((((((Ext.refl _).drew).trans x1).trans x2).trans x3).trans x4).trans x5).trans x6).trans x7)).lt; obtain ⟨k2_0, k2_1, k2_2, f2_0, f2_1, f2_2⟩ := box3 A2 (((((((((Ext.refl _).drew).trans x1).trans x2).trans x3).trans x4).trans x5).trans x6).trans x7); have z2 := (A2.ext (((((((((Ext.refl _).drew).trans x1).trans x2).trans x3).trans x4).trans x5).trans x6).trans x7)).lt))
  go_wp2_with fail
  exact bodyPost_ret (by simp [results, Tryz.results31, go_sem, k2_0, k2_1, k2_2]) rfl (RatOf.touch (hfin.base (((((x1.trans x2).trans x3).trans x4).trans x5).trans x6)) x0.drew (Touch.three _ (by omega) (by rw [World.drew, Z0.out]; omega) _ _ _))

end Go.Proofs.YtgihpfkjpfanmaaGreat
