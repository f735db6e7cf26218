/- Texts of the proof: Rat2, Rat3, Rat4, Rat5. -/
import Derived.Test.YtgihpfkjpfanmaaGreatChecked
import Derived.Lib.Strings
import Derived.Lib.Slices
import Derived.Lib.Small
import Derived.Lib.Walk
import Derived.Lib.BitFns
import Derived.Deep.DeepCutAuto
import Derived.Deep.CutBlock
import Derived.IntWalk
import Derived.Test.YtgihpfkjpfanmaaGreatRows
import Derived.KernelRfl
import Derived.WalkKit
import Derived.WalkSpells
import Derived.Sort.Grow
import Derived.Lib.Hide
import Derived.Laws.CopyOwn
import Derived.Laws.BitsAllLaws
import Derived.Deep.QuietTactic
import Derived.BigQuiet
import Derived.WalkLawsBesides
import Derived.Deep.RegionWith
import Derived.Deep.RegionHeld3
import Derived.Deep.LoopGhost
import Derived.Test.YtgihpfkjpfanmaaGreatQi1
import Derived.Test.YtgihpfkjpfanmaaGreatQi2
import Derived.Test.YtgihpfkjpfanmaaGreatQi3
import Derived.Test.YtgihpfkjpfanmaaGreatQi4
import Derived.Test.YtgihpfkjpfanmaaGreatQi5
namespace Go.Proofs.YtgihpfkjpfanmaaGreat
open Go.RowKit

theorem mkRat_num_natAbs (x : Int) (y : Nat) (h : 0 < y) : (mkRat x y).num.natAbs = x.natAbs / Nat.gcd y x.natAbs := by
  rw [Rat.num_mkRat, if_neg (by omega), Int.natAbs_ediv_of_dvd (Int.ofNat_dvd_left.2 (Nat.gcd_dvd_right _ _)), Int.natAbs_natCast]
theorem mkRat_den' (x : Int) (y : Nat) (h : 0 < y) : (mkRat x y).den = y / Nat.gcd y x.natAbs := by
  rw [Rat.den_mkRat, if_neg (by omega)]
theorem mkRat_num_neg (x : Int) (y : Nat) (h : 0 < y) : decide ((mkRat x y).num < 0) = decide (x < 0) := by
  rw [Rat.num_mkRat, if_neg (by omega)]
  have hg : (0 : Int) < (Nat.gcd y x.natAbs : Nat) := by have := Nat.gcd_pos_of_pos_left x.natAbs h; omega
  have : x / (Nat.gcd y x.natAbs : Nat) < 0 ↔ x < 0 := by
    constructor
    · intro h1
      apply Int.not_le.1; intro h2
      have := Int.ediv_nonneg h2 (Int.le_of_lt hg); omega
    · intro h1; exact Int.ediv_neg_of_neg_of_pos h1 hg
  simp only [this]

/-- What is stored of two new lists of limbs. -/
theorem NewRat.of_parts {w W w2 w3 : World} {a a' : Option Addr} {c c' : Nat} {q : Rat} {n m : Nat} {s : Bool} (hn : q.num.natAbs = n) (hm : q.den = m) (hs : decide (q.num < 0) = s)
    (h : Raw w2 a (len n) c n) (hf : Fr W.heap.size a) (h' : Raw w2 a' (len m) c' m) (hf' : Fr W.heap.size a') (hW : Ext w W) (h2 : Ext W w2)
    (t : Touch w.heap.size W.heap.size w2 w3) : NewRat q w (.returned (.agg #[.bool s, .slice a (len n) c, .slice a' (len m) c'])) w3 := by
  subst hn; subst hm; subst hs
  exact ⟨a, c, a', c', rfl, h.touch t hf.out, hf.mono hW.size, h'.touch t hf'.out, hf'.mono hW.size, hW.touch h2 t⟩

theorem wrap_abs (x : Int) (h1 : -9223372036854775808 < x) (h2 : x < 0) : IntKind.u64.wrap (-IntKind.u64.wrap x) = ((x.natAbs : Nat) : Int) := by
  rw [IntKind.wrap_u64, IntKind.wrap_u64]; omega
theorem wrap_pos (x : Int) (h1 : x < 9223372036854775808) (h2 : ¬ x < 0) : IntKind.u64.wrap x = ((x.natAbs : Nat) : Int) := by
  rw [IntKind.wrap_u64]; omega

set_option maxHeartbeats 2000000 in
set_option maxRecDepth 100000 in
/-- rational.quotient of a negative number. -/
theorem rat_quotient_neg (w : World) (x : Int) (y : Nat) (hx1 : -9223372036854775808 < x) (hx2 : x < 0) (hy0 : 0 < y) (hy : y < 9223372036854775808) :
    Calls Tryz.prog 155 #[.int .i64 x, .int .i64 (y : Nat)] w (NewRat (mkRat x y) w) := by
  have ew := wrap_abs x hx1 hx2
  go_enter Tryz.func155, Tryz.ntmps155
  go_wp2
  obtain ⟨W, hW, x0, Z0, A0⟩ := boxes1 w 55 [.bool false, .slice none 0 0, .slice none 0 0]
  rw [← hW]
  clear hW
  obtain ⟨k0_0, k0_1, k0_2, f0_0, f0_1, f0_2⟩ := box3 A0 (Ext.refl _)
  have z0 := (A0.ext (Ext.refl _)).lt
  go_loopw [6, 7] (fun gg rr wr => ∃ (p r : Nat), 0 < p ∧ p < 9223372036854775808 ∧ r < 9223372036854775808 ∧ Hid (Nat.gcd p r = Nat.gcd y x.natAbs) ∧ Quiet W wr ∧ gg = .int .u64 p ∧ rr = .int .u64 r) (fun _ rr _ => (intOf rr).toNat)
  case atStart => exact ⟨y, x.natAbs, by omega, by omega, by omega, rfl, Quiet.refl _, rfl, rfl⟩
  case round =>
    obtain ⟨p, r, hp0, hp, hr, hg, hq, rfl, rfl⟩ := hrel
    by_cases hr0 : r = 0
    · subst hr0
      have hgp : p = Nat.gcd y x.natAbs := by have := hg.out; rwa [Nat.gcd_zero_right] at this
      have q1 := mkRat_num_natAbs x y hy0
      have q2 := mkRat_den' x y hy0
      have q3 := mkRat_num_neg x y hy0
      rw [← hgp] at q1 q2
      have l1 : x.natAbs / p ≤ x.natAbs := Nat.div_le_self _ _
      have l2 : y / p ≤ y := Nat.div_le_self _ _
      have e1 : IntKind.u64.wrap (((x.natAbs : Nat) : Int) / (p : Int)) = ((x.natAbs / p : Nat) : Int) := by
        rw [IntKind.wrap_u64, ← Int.natCast_ediv]; generalize x.natAbs / p = z at *; omega
      have e2 : IntKind.u64.wrap ((y : Int) / (p : Int)) = ((y / p : Nat) : Int) := by
        rw [IntKind.wrap_u64, ← Int.natCast_ediv]; generalize y / p = z at *; omega
      have e1' : ((x.natAbs : Nat) : Int) / (p : Int) = ((x.natAbs / p : Nat) : Int) := (Int.natCast_ediv _ _).symm
      have e2' : (y : Int) / (p : Int) = ((y / p : Nat) : Int) := (Int.natCast_ediv _ _).symm
      have e1'' : IntKind.u64.wrap ((x.natAbs / p : Nat) : Int) = ((x.natAbs / p : Nat) : Int) := by
        rw [IntKind.wrap_u64]; generalize x.natAbs / p = z at *; omega
      have e2'' : IntKind.u64.wrap ((y / p : Nat) : Int) = ((y / p : Nat) : Int) := by
        rw [IntKind.wrap_u64]; generalize y / p = z at *; omega
      have b1 : x.natAbs / p < 18446744073709551616 := by omega
      have b2 : y / p < 18446744073709551616 := by omega
      clear hgp hg l1 l2
      generalize x.natAbs / p = u at *
      generalize y / p = v at *
      generalize hQ : mkRat x y = Q at *
      have Q1 := Lib.hid q1; have Q2 := Lib.hid q2; have Q3 := Lib.hid q3; have HQ := Lib.hid hQ
      clear q1 q2 q3 hQ
      have hpi : ((p : Int) == 0) = false := by rw [beq_eq_false_iff_ne]; omega
      have h1p : (1 : Int) ≤ (p : Int) := by omega
      have hpne : ((p : Nat) : Int) ≠ 0 := by omega
      obtain ⟨k0_0, k0_1, k0_2, f0_0, f0_1, f0_2⟩ := box3 A0 hq.ext
      have z0 := (A0.ext hq.ext).lt
      have tok1 : True := trivial
      go_wp2
      go_region_with (first
        | (go_at_call 211; have _t := tok1; refine (nat_FromUint64 _ _ (by assumption)).mono ?_; rintro e w1 ⟨a1, c1, rfl, hr1, hf1, hx3⟩; clear tok1 _t; obtain ⟨k0_0, k0_1, k0_2, f0_0, f0_1, f0_2⟩ := box3 A0 ((hq.ext.drew).trans hx3); have z0 := (A0.ext ((hq.ext.drew).trans hx3)).lt)
        | (go_at_call 211; refine (nat_FromUint64 _ _ (by assumption)).mono ?_; rintro e w2 ⟨a2, c2, rfl, hr2, hf2, hx4⟩; obtain ⟨k0_0, k0_1, k0_2, f0_0, f0_1, f0_2⟩ := box3 A0 (((hq.ext.drew).trans hx3).trans hx4); have z0 := (A0.ext (((hq.ext.drew).trans hx3).trans hx4)).lt))
      all_goals go_wp2
      all_goals exact bodyPost_ret (by simp [results, Tryz.results155, go_sem, k0_0, k0_1, k0_2, hx2]) rfl (NewRat.of_parts (s := decide (x < 0)) Q1.out Q2.out Q3.out (hr1.ext hx4) (hf1.mono hq.ext.size) hr2 (hf2.mono (Nat.le_trans hq.ext.size hx3.size)) x0 ((hq.ext.drew.trans hx3).trans hx4) (Touch.three _ (Nat.le_refl _) (by rw [Z0.out]; omega) _ _ _))
    · have hrb : (((r : Nat) : Int) != 0) = true := by rw [bne_iff_ne]; omega
      have e3 : (p : Int).tmod (r : Int) = ((p % r : Nat) : Int) := by rw [Int.tmod_eq_emod_of_nonneg (by omega), Int.natCast_emod]
      have hri : ((r : Int) == 0) = false := by rw [beq_eq_false_iff_ne]; omega
      have h1r : (1 : Int) ≤ (r : Int) := by omega
      have hlt := Nat.mod_lt p (Nat.pos_of_ne_zero hr0)
      have hgg : Nat.gcd r (p % r) = Nat.gcd p r := by rw [Nat.gcd_comm r, ← Nat.gcd_rec, Nat.gcd_comm]
      have HG := Lib.hid hgg; clear hgg
      go_wp2
      go_quiet (fail)
      go_wp2
      go_roundw
      case rel => exact ⟨r, p % r, by omega, by omega, by omega, HG.out.trans hg.out, hq.drewN _, rfl, rfl⟩
      case measure => simp [intOf]; omega

set_option maxHeartbeats 2000000 in
set_option maxRecDepth 100000 in
/-- rational.quotient of a number that is not negative. -/
theorem rat_quotient_pos (w : World) (x : Int) (y : Nat) (hx1 : x < 9223372036854775808) (hx2 : ¬ x < 0) (hy0 : 0 < y) (hy : y < 9223372036854775808) :
    Calls Tryz.prog 155 #[.int .i64 x, .int .i64 (y : Nat)] w (NewRat (mkRat x y) w) := by
  have ew := wrap_pos x hx1 hx2
  go_enter Tryz.func155, Tryz.ntmps155
  go_wp2
  obtain ⟨W, hW, x0, Z0, A0⟩ := boxes1 w 55 [.bool false, .slice none 0 0, .slice none 0 0]
  rw [← hW]
  clear hW
  obtain ⟨k0_0, k0_1, k0_2, f0_0, f0_1, f0_2⟩ := box3 A0 (Ext.refl _)
  have z0 := (A0.ext (Ext.refl _)).lt
  go_loopw [6, 7] (fun gg rr wr => ∃ (p r : Nat), 0 < p ∧ p < 9223372036854775808 ∧ r < 9223372036854775808 ∧ Hid (Nat.gcd p r = Nat.gcd y x.natAbs) ∧ Quiet W wr ∧ gg = .int .u64 p ∧ rr = .int .u64 r) (fun _ rr _ => (intOf rr).toNat)
  case atStart => exact ⟨y, x.natAbs, by omega, by omega, by omega, rfl, Quiet.refl _, rfl, rfl⟩
  case round =>
    obtain ⟨p, r, hp0, hp, hr, hg, hq, rfl, rfl⟩ := hrel
    by_cases hr0 : r = 0
    · subst hr0
      have hgp : p = Nat.gcd y x.natAbs := by have := hg.out; rwa [Nat.gcd_zero_right] at this
      have q1 := mkRat_num_natAbs x y hy0
      have q2 := mkRat_den' x y hy0
      have q3 := mkRat_num_neg x y hy0
      rw [← hgp] at q1 q2
      have l1 : x.natAbs / p ≤ x.natAbs := Nat.div_le_self _ _
      have l2 : y / p ≤ y := Nat.div_le_self _ _
      have e1 : IntKind.u64.wrap (((x.natAbs : Nat) : Int) / (p : Int)) = ((x.natAbs / p : Nat) : Int) := by
        rw [IntKind.wrap_u64, ← Int.natCast_ediv]; generalize x.natAbs / p = z at *; omega
      have e2 : IntKind.u64.wrap ((y : Int) / (p : Int)) = ((y / p : Nat) : Int) := by
        rw [IntKind.wrap_u64, ← Int.natCast_ediv]; generalize y / p = z at *; omega
      have e1' : ((x.natAbs : Nat) : Int) / (p : Int) = ((x.natAbs / p : Nat) : Int) := (Int.natCast_ediv _ _).symm
      have e2' : (y : Int) / (p : Int) = ((y / p : Nat) : Int) := (Int.natCast_ediv _ _).symm
      have e1'' : IntKind.u64.wrap ((x.natAbs / p : Nat) : Int) = ((x.natAbs / p : Nat) : Int) := by
        rw [IntKind.wrap_u64]; generalize x.natAbs / p = z at *; omega
      have e2'' : IntKind.u64.wrap ((y / p : Nat) : Int) = ((y / p : Nat) : Int) := by
        rw [IntKind.wrap_u64]; generalize y / p = z at *; omega
      have b1 : x.natAbs / p < 18446744073709551616 := by omega
      have b2 : y / p < 18446744073709551616 := by omega
      clear hgp hg l1 l2
      generalize x.natAbs / p = u at *
      generalize y / p = v at *
      generalize hQ : mkRat x y = Q at *
      have Q1 := Lib.hid q1; have Q2 := Lib.hid q2; have Q3 := Lib.hid q3; have HQ := Lib.hid hQ
      clear q1 q2 q3 hQ
      have hpi : ((p : Int) == 0) = false := by rw [beq_eq_false_iff_ne]; omega
      have h1p : (1 : Int) ≤ (p : Int) := by omega
      have hpne : ((p : Nat) : Int) ≠ 0 := by omega
      obtain ⟨k0_0, k0_1, k0_2, f0_0, f0_1, f0_2⟩ := box3 A0 hq.ext
      have z0 := (A0.ext hq.ext).lt
      have tok1 : True := trivial
      go_wp2
      go_region_with (first
        | (go_at_call 211; have _t := tok1; refine (nat_FromUint64 _ _ (by assumption)).mono ?_; rintro e w1 ⟨a1, c1, rfl, hr1, hf1, hx3⟩; clear tok1 _t; obtain ⟨k0_0, k0_1, k0_2, f0_0, f0_1, f0_2⟩ := box3 A0 ((hq.ext.drew).trans hx3); have z0 := (A0.ext ((hq.ext.drew).trans hx3)).lt)
        | (go_at_call 211; refine (nat_FromUint64 _ _ (by assumption)).mono ?_; rintro e w2 ⟨a2, c2, rfl, hr2, hf2, hx4⟩; obtain ⟨k0_0, k0_1, k0_2, f0_0, f0_1, f0_2⟩ := box3 A0 (((hq.ext.drew).trans hx3).trans hx4); have z0 := (A0.ext (((hq.ext.drew).trans hx3).trans hx4)).lt))
      all_goals go_wp2
      all_goals exact bodyPost_ret (by simp [results, Tryz.results155, go_sem, k0_0, k0_1, k0_2]) rfl (NewRat.of_parts (s := decide (x < 0)) Q1.out Q2.out Q3.out (hr1.ext hx4) (hf1.mono hq.ext.size) hr2 (hf2.mono (Nat.le_trans hq.ext.size hx3.size)) x0 ((hq.ext.drew.trans hx3).trans hx4) (Touch.three _ (Nat.le_refl _) (by rw [Z0.out]; omega) _ _ _))
    · have hrb : (((r : Nat) : Int) != 0) = true := by rw [bne_iff_ne]; omega
      have e3 : (p : Int).tmod (r : Int) = ((p % r : Nat) : Int) := by rw [Int.tmod_eq_emod_of_nonneg (by omega), Int.natCast_emod]
      have hri : ((r : Int) == 0) = false := by rw [beq_eq_false_iff_ne]; omega
      have h1r : (1 : Int) ≤ (r : Int) := by omega
      have hlt := Nat.mod_lt p (Nat.pos_of_ne_zero hr0)
      have hgg : Nat.gcd r (p % r) = Nat.gcd p r := by rw [Nat.gcd_comm r, ← Nat.gcd_rec, Nat.gcd_comm]
      have HG := Lib.hid hgg; clear hgg
      go_wp2
      go_quiet (fail)
      go_wp2
      go_roundw
      case rel => exact ⟨r, p % r, by omega, by omega, by omega, HG.out.trans hg.out, hq.drewN _, rfl, rfl⟩
      case measure => simp [intOf]; omega

/-- rational.quotient. -/
theorem rat_quotient (w : World) (x : Int) (y : Nat) (h1 : -9223372036854775808 < x) (h2 : x < 9223372036854775808) (hy0 : 0 < y) (hy : y < 9223372036854775808) :
    Calls Tryz.prog 155 #[.int .i64 x, .int .i64 (y : Nat)] w (NewRat (mkRat x y) w) := by
  by_cases h : x < 0
  · exact rat_quotient_neg w x y h1 h hy0 hy
  · exact rat_quotient_pos w x y h2 h hy0 hy
end Go.Proofs.YtgihpfkjpfanmaaGreat


namespace Go.Proofs.YtgihpfkjpfanmaaGreat
open Go.RowKit

/-- integer.Norm, the magnitude written out. -/
theorem int_Norm' (w : World) (s : Bool) (a : Option Addr) (k c n : Nat) (h : Raw w a k c n) :
    Calls Tryz.prog 218 #[.agg #[.bool s, .slice a k c]] w fun e w' => ∃ a1 c1, e = .returned (.agg #[.bool (decide (sgn s n < 0)), .slice a1 (len n) c1]) ∧ Raw w' a1 (len n) c1 n ∧ Fr w.heap.size a1 ∧ Ext w w' :=
  (int_Norm w s a k c n h).mono fun _ _ ⟨a1, c1, he, hr, hf, hx⟩ => ⟨a1, c1, by rw [he, sgn_natAbs], by rw [sgn_natAbs] at hr; exact hr, hf, hx⟩

/-- A rational number in the cells of the result. -/
theorem NewRat.of2 {w w3 : World} {a a' : Option Addr} {c c' : Nat} {q : Rat} {n m : Nat} {s : Bool} (hn : q.num.natAbs = n) (hm : q.den = m) (hs : decide (q.num < 0) = s)
    (h : Raw w3 a (len n) c n) (hf : Fr w.heap.size a) (h' : Raw w3 a' (len m) c' m) (hf' : Fr w.heap.size a') (hE : Ext w w3) : NewRat q w (.returned (.agg #[.bool s, .slice a (len n) c, .slice a' (len m) c'])) w3 := by
  subst hn; subst hm; subst hs
  exact ⟨a, c, a', c', rfl, h, hf, h', hf', hE⟩
theorem Ext.set3 {a w : World} (h : Ext a w) {b : Nat} (hb : a.heap.size ≤ b) (v0 v1 v2 : Value) : Ext a (((w.setCell ⟨b, 0, none⟩ v0).setCell ⟨b, 1, none⟩ v1).setCell ⟨b, 2, none⟩ v2) := ((h.setCell hb _).setCell hb _).setCell hb _
theorem Ext.set2 {a w : World} (h : Ext a w) {b : Nat} (hb : a.heap.size ≤ b) (v0 v1 : Value) : Ext a ((w.setCell ⟨b, 0, none⟩ v0).setCell ⟨b, 1, none⟩ v1) := (h.setCell hb _).setCell hb _

set_option maxHeartbeats 2000000 in
set_option maxRecDepth 100000 in
/-- rational.lowest. -/
theorem rat_lowest (w : World) (s : Bool) (a b : Option Addr) (k c j d n m : Nat) (h : Raw w a k c n) (g : Raw w b j d m) (hm : 0 < m) (b1 : len n < 400000000) (b2 : len m < 400000000) :
    Calls Tryz.prog 156 #[.agg #[.bool s, .slice a k c], .slice b j d] w (NewRat (mkRat (sgn s n) m) w) := by
  go_enter Tryz.func156, Tryz.ntmps156
  go_wp2_with fail
  obtain ⟨W, hW, x0, Z0, A0, A1⟩ := boxes2 w 53 [.bool s, .slice a k c] 55 [.bool false, .slice none 0 0, .slice none 0 0]
  rw [← hW]
  clear hW
  obtain ⟨k0_0, k0_1, f0_0, f0_1⟩ := box2 A0 (Ext.refl _)
  have z0 := (A0.ext (Ext.refl _)).lt
  obtain ⟨k1_0, k1_1, k1_2, f1_0, f1_1, f1_2⟩ := box3 A1 (Ext.refl _)
  have z1 := (A1.ext (Ext.refl _)).lt
  refine (int_Norm' _ _ _ _ _ _ (h.ext x0)).mono ?_
  rintro e w1 ⟨a1, c1, rfl, hr1, hf1, hx1⟩
  obtain ⟨k0_0, k0_1, f0_0, f0_1⟩ := box2 A0 hx1
  have z0 := (A0.ext hx1).lt
  obtain ⟨k1_0, k1_1, k1_2, f1_0, f1_1, f1_2⟩ := box3 A1 hx1
  have z1 := (A1.ext hx1).lt
  go_wp2_with fail
  refine (nat_Trim _ _ _ _ _ ((g.ext x0).ext hx1)).mono ?_
  rintro e w2 ⟨a2, c2, rfl, hr2, hf2, hx2⟩
  obtain ⟨k0_0, k0_1, f0_0, f0_1⟩ := box2 A0 (hx1.trans hx2)
  have z0 := (A0.ext (hx1.trans hx2)).lt
  obtain ⟨k1_0, k1_1, k1_2, f1_0, f1_1, f1_2⟩ := box3 A1 (hx1.trans hx2)
  have z1 := (A1.ext (hx1.trans hx2)).lt
  have y2 : Ext W w2 := hx1.trans hx2
  have F2 : Fr W.heap.size a2 := hf2.mono hx1.size
  by_cases h0 : n = 0
  · subst h0
    have eq0 : mkRat (sgn s 0) m = 0 := by rw [sgn_zero, Rat.zero_mkRat]
    have EQ0 := Lib.hid eq0; clear eq0
    have es : decide (sgn s 0 < 0) = false := by rw [sgn_zero]; rfl
    go_wp2
    refine bodyPost_ret (v := .agg #[.bool false, .slice none 0 0, .slice (some ⟨w2.heap.size, 0, none⟩) 1 1]) (by simp [results, Tryz.results156, go_sem, *]) rfl ?_
    rw [EQ0.out]
    refine ⟨none, 0, some ⟨w2.heap.size, 0, none⟩, 1, by rw [show (0 : Rat).den = 1 from rfl, len1]; rfl, Raw.nil _, Fr.none _, ?_, Fr.some (x0.trans y2).size, ?_⟩
    · rw [show (0 : Rat).den = 1 from rfl, len1]
      have := raw_one (((((w2.setCell ⟨w.heap.size, 0, none⟩ (.bool false)).setCell ⟨w.heap.size, 1, none⟩ (.slice a1 (len 0) c1)).setCell ⟨w.heap.size + 1, 0, none⟩ (.bool false)).setCell ⟨w.heap.size + 1, 1, none⟩ (.slice none 0 0)).setCell ⟨w.heap.size + 1, 2, none⟩ (.slice (some ⟨w2.heap.size, 0, none⟩) 1 1))
      simpa using this
    · refine Ext.alloc (Ext.setCell (Ext.setCell (Ext.setCell (Ext.setCell (Ext.setCell (x0.trans y2) ?_ _) ?_ _) ?_ _) ?_ _) ?_ _) _ <;> simp
  · have hn0 : (((len n : Nat) : Int) == 0) = false := by rw [beq_eq_false_iff_ne]; have := len_pos.2 (Nat.pos_of_ne_zero h0); omega
    go_wp2_with fail
    obtain ⟨w3, hw3⟩ : ∃ w3, w3 = ((w2.setCell ⟨w.heap.size, 0, none⟩ (.bool (decide (sgn s n < 0)))).setCell ⟨w.heap.size, 1, none⟩ (.slice a1 (len n) c1)) := ⟨_, rfl⟩
    rw [← hw3]
    have T3 : Touch w.heap.size W.heap.size w2 w3 := by rw [hw3]; exact Touch.two _ (Nat.le_refl _) (by rw [Z0.out]; omega) _ _
    have B0 : Arr w3 w.heap.size 53 [.bool (decide (sgn s n < 0)), .slice a1 (len n) c1] := by rw [hw3]; exact ((A0.ext y2).set 0 _).set 1 _
    have B1 : Arr w3 (w.heap.size + 1) 55 [.bool false, .slice none 0 0, .slice none 0 0] := by rw [hw3]; exact ((A1.ext y2).other _ _ (by simp)).other _ _ (by simp)
    have E3 : Ext w w3 := x0.touch y2 T3
    have S3 : W.heap.size ≤ w3.heap.size := by rw [T3.size]; exact y2.size
    clear hw3 A0 A1 k0_0 k0_1 k1_0 k1_1 k1_2 f0_0 f0_1 f1_0 f1_1 f1_2 z0 z1
    have r1 := (hr1.ext hx2).touch T3 hf1.out
    have r2 := hr2.touch T3 F2.out
    obtain ⟨G, hG⟩ : ∃ G, G = Nat.gcd n m := ⟨_, rfl⟩
    have hG0 : 0 < G := by rw [hG]; exact Nat.gcd_pos_of_pos_right _ hm
    have q1 : (mkRat (sgn s n) m).num.natAbs = n / G := by rw [mkRat_num_natAbs _ _ hm, sgn_natAbs, hG, Nat.gcd_comm]
    have q2 : (mkRat (sgn s n) m).den = m / G := by rw [mkRat_den' _ _ hm, sgn_natAbs, hG, Nat.gcd_comm]
    have q3 := mkRat_num_neg (sgn s n) m hm
    generalize hQ : mkRat (sgn s n) m = Q at *
    have Q1 := Lib.hid q1; have Q2 := Lib.hid q2; have Q3 := Lib.hid q3; have HQ := Lib.hid hQ
    clear q1 q2 q3 hQ
    refine (nat_GCD _ _ _ _ _ _ _ _ _ r1 r2 b1 b2).mono ?_
    rw [← hG]
    have HG := Lib.hid hG; clear hG
    rintro e w4 ⟨a4, c4, rfl, hr4, hf4, hx4⟩
    have F4 : Fr W.heap.size a4 := hf4.mono S3
    have lG := len_pos.2 hG0
    obtain ⟨i0, i1, i2, i3⟩ := box2 B0 hx4
    obtain ⟨l0, l1, l2, l3, l4, l5⟩ := box3 B1 hx4
    have i4 := (B0.ext hx4).lt
    have l6 := (B1.ext hx4).lt
    by_cases hG1 : G = 1
    · subst hG1
      have e1 : Q.num.natAbs = n := by rw [Q1.out, Nat.div_one]
      have e2 : Q.den = m := by rw [Q2.out, Nat.div_one]
      have R1 := Lib.hid e1; have R2 := Lib.hid e2; clear e1 e2
      obtain ⟨l, hl, hv, hL⟩ := hr4
      rw [len1] at hl
      obtain ⟨pb, ob, rfl⟩ := hL.at (by omega)
      have hc := hL.cellAt 0 (by omega)
      have e0 : limb l 0 = 1 := by
        match l, hl with
        | [x], _ => simpa [limb, val] using hv
      rw [e0, Nat.add_zero] at hc
      rw [len1]
      clear hl hv e0
      go_wp2
      exact bodyPost_ret (by simp [results, Tryz.results156, go_sem, *]) rfl (NewRat.of2 R1.out R2.out Q3.out ((r1.ext hx4).touch (Touch.three (lo := w.heap.size) (hi := W.heap.size) _ (by omega) (by rw [Z0.out]; omega) _ _ _) hf1.out) (hf1.mono x0.size) ((r2.ext hx4).touch (Touch.three (lo := w.heap.size) (hi := W.heap.size) _ (by omega) (by rw [Z0.out]; omega) _ _ _) F2.out) (F2.mono x0.size) (Ext.set3 (E3.trans hx4) (by simp) _ _ _))
    · have go : ∀ (hguard : True), True := fun _ => trivial
      by_cases hl1 : len G = 1
      · have hl1' : (((len G : Nat) : Int) != 1) = false := by rw [hl1]; rfl
        obtain ⟨l, hl, hv, hL⟩ := id hr4
        obtain ⟨pb, ob, rfl⟩ := hL.at (by omega)
        have hc := hL.cellAt 0 (by omega)
        have e0 : limb l 0 = G := by
          rw [hl1] at hl
          match l, hl with
          | [x], _ => simpa [limb, val] using hv
        rw [e0, Nat.add_zero] at hc
        have hg1 : (((G : Nat) : Int) != 1) = true := by rw [bne_iff_ne]; omega
        have h0l : (0 : Int) < (len G : Int) := by omega
        have HL1 := Lib.hid hl1; clear hl hv e0 hl1
        go_wp2_with fail
        refine (nat_DivMod _ _ _ _ _ _ _ _ _ (r1.ext hx4) hr4 hG0 (by omega)).mono ?_
        rintro e w5 ⟨a5, c5, a6, c6, rfl, hr5, hf5, hr6, hf6, hx5⟩
        have F5 : Fr W.heap.size a5 := hf5.mono (Nat.le_trans S3 hx4.size)
        have C0 := (B0.ext hx4).ext hx5
        have C1 := (B1.ext hx4).ext hx5
        obtain ⟨i0, i1, i2, i3⟩ := box2 C0 (Ext.refl _)
        have i4 := C0.lt
        go_wp2_with fail
        obtain ⟨w6, hw6⟩ : ∃ w6, w6 = w5.setCell ⟨w.heap.size, 1, none⟩ (.slice a5 (len (n / G)) c5) := ⟨_, rfl⟩
        rw [← hw6]
        have T6 : Touch w.heap.size W.heap.size w5 w6 := by rw [hw6]; exact Touch.one _ (Nat.le_refl _) (by rw [Z0.out]; omega) _ _
        have D0 : Arr w6 w.heap.size 53 [.bool (decide (sgn s n < 0)), .slice a5 (len (n / G)) c5] := by rw [hw6]; exact C0.set 1 _
        have D1 : Arr w6 (w.heap.size + 1) 55 [.bool false, .slice none 0 0, .slice none 0 0] := by rw [hw6]; exact C1.other _ _ (by simp)
        have E6 : Ext w w6 := by rw [hw6]; exact ((E3.trans hx4).trans hx5).setCell (Nat.le_refl _) _
        have S6 : W.heap.size ≤ w6.heap.size := by rw [T6.size]; exact Nat.le_trans S3 (hx4.trans hx5).size
        clear hw6
        refine (nat_DivMod _ _ _ _ _ _ _ _ _ (((r2.ext hx4).ext hx5).touch T6 F2.out) ((hr4.ext hx5).touch T6 F4.out) hG0 (by omega)).mono ?_
        rintro e w7 ⟨a7, c7, a8, c8, rfl, hr7, hf7, hr8, hf8, hx7⟩
        have F7 : Fr W.heap.size a7 := hf7.mono S6
        obtain ⟨i0, i1, i2, i3⟩ := box2 D0 hx7
        obtain ⟨l0, l1, l2, l3, l4, l5⟩ := box3 D1 hx7
        have i4 := (D0.ext hx7).lt
        have l6 := (D1.ext hx7).lt
        go_wp2
        exact bodyPost_ret (by simp [results, Tryz.results156, go_sem, *]) rfl (NewRat.of2 Q1.out Q2.out Q3.out (((hr5.touch T6 F5.out).ext hx7).touch (Touch.three (lo := w.heap.size) (hi := W.heap.size) _ (by omega) (by rw [Z0.out]; omega) _ _ _) F5.out) (F5.mono x0.size) (hr7.touch (Touch.three (lo := w.heap.size) (hi := W.heap.size) _ (by omega) (by rw [Z0.out]; omega) _ _ _) F7.out) (F7.mono x0.size) (Ext.set3 (E6.trans hx7) (by simp) _ _ _))
      · have hl1' : (((len G : Nat) : Int) != 1) = true := by rw [bne_iff_ne]; omega
        go_wp2_with fail
        refine (nat_DivMod _ _ _ _ _ _ _ _ _ (r1.ext hx4) hr4 hG0 (by omega)).mono ?_
        rintro e w5 ⟨a5, c5, a6, c6, rfl, hr5, hf5, hr6, hf6, hx5⟩
        have F5 : Fr W.heap.size a5 := hf5.mono (Nat.le_trans S3 hx4.size)
        have C0 := (B0.ext hx4).ext hx5
        have C1 := (B1.ext hx4).ext hx5
        obtain ⟨i0, i1, i2, i3⟩ := box2 C0 (Ext.refl _)
        have i4 := C0.lt
        go_wp2_with fail
        obtain ⟨w6, hw6⟩ : ∃ w6, w6 = w5.setCell ⟨w.heap.size, 1, none⟩ (.slice a5 (len (n / G)) c5) := ⟨_, rfl⟩
        rw [← hw6]
        have T6 : Touch w.heap.size W.heap.size w5 w6 := by rw [hw6]; exact Touch.one _ (Nat.le_refl _) (by rw [Z0.out]; omega) _ _
        have D0 : Arr w6 w.heap.size 53 [.bool (decide (sgn s n < 0)), .slice a5 (len (n / G)) c5] := by rw [hw6]; exact C0.set 1 _
        have D1 : Arr w6 (w.heap.size + 1) 55 [.bool false, .slice none 0 0, .slice none 0 0] := by rw [hw6]; exact C1.other _ _ (by simp)
        have E6 : Ext w w6 := by rw [hw6]; exact ((E3.trans hx4).trans hx5).setCell (Nat.le_refl _) _
        have S6 : W.heap.size ≤ w6.heap.size := by rw [T6.size]; exact Nat.le_trans S3 (hx4.trans hx5).size
        clear hw6
        refine (nat_DivMod _ _ _ _ _ _ _ _ _ (((r2.ext hx4).ext hx5).touch T6 F2.out) ((hr4.ext hx5).touch T6 F4.out) hG0 (by omega)).mono ?_
        rintro e w7 ⟨a7, c7, a8, c8, rfl, hr7, hf7, hr8, hf8, hx7⟩
        have F7 : Fr W.heap.size a7 := hf7.mono S6
        obtain ⟨i0, i1, i2, i3⟩ := box2 D0 hx7
        obtain ⟨l0, l1, l2, l3, l4, l5⟩ := box3 D1 hx7
        have i4 := (D0.ext hx7).lt
        have l6 := (D1.ext hx7).lt
        go_wp2
        exact bodyPost_ret (by simp [results, Tryz.results156, go_sem, *]) rfl (NewRat.of2 Q1.out Q2.out Q3.out (((hr5.touch T6 F5.out).ext hx7).touch (Touch.three (lo := w.heap.size) (hi := W.heap.size) _ (by omega) (by rw [Z0.out]; omega) _ _ _) F5.out) (F5.mono x0.size) (hr7.touch (Touch.three (lo := w.heap.size) (hi := W.heap.size) _ (by omega) (by rw [Z0.out]; omega) _ _ _) F7.out) (F7.mono x0.size) (Ext.set3 (E6.trans hx7) (by simp) _ _ _))
end Go.Proofs.YtgihpfkjpfanmaaGreat


namespace Go.Proofs.YtgihpfkjpfanmaaGreat
open Go.RowKit

theorem NewRat.base {q : Rat} {W w1 w2 : World} {e : Ending} (h : NewRat q w1 e w2) (hx : Ext W w1) : NewRat q W e w2 := by
  obtain ⟨a, c, a', c', he, hr, hf, hr', hf', hx'⟩ := h
  exact ⟨a, c, a', c', he, hr, hf.mono hx.size, hr', hf'.mono hx.size, hx.trans hx'⟩

set_option maxHeartbeats 1000000 in
/-- rational.Norm. -/
theorem rat_Norm (w : World) (s : Bool) (a b : Option Addr) (k c j d n m : Nat) (h : Raw w a k c n) (g : Raw w b j d m) (b1 : len n < 100000000) (b2 : len m < 100000000) :
    Calls Tryz.prog 146 #[.agg #[.bool s, .slice a k c, .slice b j d]] w (NewRat (mkRat (sgn s n) m) w) := by
  by_cases hsm : n < 2147483648 ∧ m < 2147483648
  · obtain ⟨hn, hm⟩ := hsm
    have HN := Lib.hid hn; have HM := Lib.hid hm; clear hn hm
    go_enter Tryz.func146, Tryz.ntmps146
    go_wp2_with fail
    obtain ⟨W, hW, x0, Z0, A0, A1⟩ := boxes2 w 55 [.bool s, .slice a k c, .slice b j d] 55 [.bool false, .slice none 0 0, .slice none 0 0]
    rw [← hW]
    clear hW
    obtain ⟨k0_0, k0_1, k0_2, f0_0, f0_1, f0_2⟩ := box3 A0 (Ext.refl _)
    have z0 := (A0.ext (Ext.refl _)).lt
    obtain ⟨k1_0, k1_1, k1_2, f1_0, f1_1, f1_2⟩ := box3 A1 (Ext.refl _)
    have z1 := (A1.ext (Ext.refl _)).lt
    refine (rat_small _ _ _ _ _ _ _ _ _ _ (h.ext x0) (g.ext x0) HN.out HM.out).mono ?_
    rintro e w1 ⟨x, y, rfl, hx1, hx2, hy1, hy2, hxy, hx⟩
    have HXY := Lib.hid hxy; clear hxy
    obtain ⟨k0_0, k0_1, k0_2, f0_0, f0_1, f0_2⟩ := box3 A0 hx
    have z0 := (A0.ext hx).lt
    obtain ⟨k1_0, k1_1, k1_2, f1_0, f1_1, f1_2⟩ := box3 A1 hx
    have z1 := (A1.ext hx).lt
    go_wp2_with fail
    refine (rat_quotient _ _ _ (by omega) (by omega) hy1 (by omega)).mono ?_
    intro e wz hN
    rw [HXY.out] at hN
    obtain ⟨az, cz, az', cz', rfl, hrz, hfz, hrz', hfz', hxz⟩ := id hN
    obtain ⟨k0_0, k0_1, k0_2, f0_0, f0_1, f0_2⟩ := box3 A0 (hx.trans hxz)
    have z0 := (A0.ext (hx.trans hxz)).lt
    obtain ⟨k1_0, k1_1, k1_2, f1_0, f1_1, f1_2⟩ := box3 A1 (hx.trans hxz)
    have z1 := (A1.ext (hx.trans hxz)).lt
    go_wp2
    exact bodyPost_ret (by simp [results, Tryz.results146, go_sem, *]) rfl (NewRat.touch (hN.base hx) x0 (Touch.three _ (by omega) (by rw [Z0.out]; omega) _ _ _))
  · have HS := Lib.hid hsm; clear hsm
    go_enter Tryz.func146, Tryz.ntmps146
    go_wp2_with fail
    obtain ⟨W, hW, x0, Z0, A0, A1⟩ := boxes2 w 55 [.bool s, .slice a k c, .slice b j d] 55 [.bool false, .slice none 0 0, .slice none 0 0]
    rw [← hW]
    clear hW
    obtain ⟨k0_0, k0_1, k0_2, f0_0, f0_1, f0_2⟩ := box3 A0 (Ext.refl _)
    have z0 := (A0.ext (Ext.refl _)).lt
    obtain ⟨k1_0, k1_1, k1_2, f1_0, f1_1, f1_2⟩ := box3 A1 (Ext.refl _)
    have z1 := (A1.ext (Ext.refl _)).lt
    refine (rat_small_no _ _ _ _ _ _ _ _ _ _ (h.ext x0) (g.ext x0) HS.out).mono ?_
    rintro e w1 ⟨rfl, hx⟩
    obtain ⟨k0_0, k0_1, k0_2, f0_0, f0_1, f0_2⟩ := box3 A0 hx
    have z0 := (A0.ext hx).lt
    obtain ⟨k1_0, k1_1, k1_2, f1_0, f1_1, f1_2⟩ := box3 A1 hx
    have z1 := (A1.ext hx).lt
    go_wp2_with fail
    refine (rat_parts _ _ _ _ _ _ _ _ _ _ ((h.ext x0).ext hx) ((g.ext x0).ext hx)).mono ?_
    rintro e w2 ⟨s1, a1, k1, c1, n1, e1, j1, d1, m1, rfl, h1, g1, hm1, hv, l1, l2, hx2⟩
    have HV := Lib.hid hv; clear hv
    obtain ⟨k0_0, k0_1, k0_2, f0_0, f0_1, f0_2⟩ := box3 A0 (hx.trans hx2)
    have z0 := (A0.ext (hx.trans hx2)).lt
    obtain ⟨k1_0, k1_1, k1_2, f1_0, f1_1, f1_2⟩ := box3 A1 (hx.trans hx2)
    have z1 := (A1.ext (hx.trans hx2)).lt
    go_wp2_with fail
    refine (rat_lowest _ _ _ _ _ _ _ _ _ _ h1 g1 hm1 (by omega) (by omega)).mono ?_
    intro e wz hN
    rw [HV.out] at hN
    obtain ⟨az, cz, az', cz', rfl, hrz, hfz, hrz', hfz', hxz⟩ := id hN
    obtain ⟨k0_0, k0_1, k0_2, f0_0, f0_1, f0_2⟩ := box3 A0 ((hx.trans hx2).trans hxz)
    have z0 := (A0.ext ((hx.trans hx2).trans hxz)).lt
    obtain ⟨k1_0, k1_1, k1_2, f1_0, f1_1, f1_2⟩ := box3 A1 ((hx.trans hx2).trans hxz)
    have z1 := (A1.ext ((hx.trans hx2).trans hxz)).lt
    go_wp2
    exact bodyPost_ret (by simp [results, Tryz.results146, go_sem, *]) rfl (NewRat.touch (hN.base (hx.trans hx2)) x0 (Touch.three _ (by omega) (by rw [Z0.out]; omega) _ _ _))

set_option maxHeartbeats 1000000 in
/-- rational.FromInt. -/
theorem rat_FromInt (w : World) (v : Int) (h1 : -9223372036854775808 ≤ v) (h2 : v ≤ 9223372036854775807) :
    Calls Tryz.prog 80 #[.int .i64 v] w (NewRat (v : Rat) w) := by
  go_enter Tryz.func80, Tryz.ntmps80
  go_wp2_with fail
  obtain ⟨W, hW, x0, Z0, A0⟩ := boxes1 w 55 [.bool false, .slice none 0 0, .slice none 0 0]
  rw [← hW]
  clear hW
  obtain ⟨k0_0, k0_1, k0_2, f0_0, f0_1, f0_2⟩ := box3 A0 (Ext.refl _)
  have z0 := (A0.ext (Ext.refl _)).lt
  refine (int_FromInt _ _ h1 h2).mono ?_
  rintro e w1 ⟨a1, c1, rfl, hr1, hf1, hx1⟩
  obtain ⟨k0_0, k0_1, k0_2, f0_0, f0_1, f0_2⟩ := box3 A0 hx1
  have z0 := (A0.ext hx1).lt
  go_wp2
  refine bodyPost_ret (v := .agg #[.bool (decide (v < 0)), .slice a1 (len v.natAbs) c1, .slice (some ⟨w1.heap.size, 0, none⟩) 1 1]) (by simp [results, Tryz.results80, go_sem, *]) rfl ?_
  have R := raw_one (((w1.setCell ⟨w.heap.size, 0, none⟩ (.bool (decide (v < 0)))).setCell ⟨w.heap.size, 1, none⟩ (.slice a1 (len v.natAbs) c1)).setCell ⟨w.heap.size, 2, none⟩ (.slice (some ⟨w1.heap.size, 0, none⟩) 1 1))
  have E := Ext.set3 (x0.trans hx1) (Nat.le_refl w.heap.size) (.bool (decide (v < 0))) (.slice a1 (len v.natAbs) c1) (.slice (some ⟨w1.heap.size, 0, none⟩) 1 1)
  refine ⟨a1, c1, some ⟨w1.heap.size, 0, none⟩, 1, ?_, ?_, hf1.mono x0.size, ?_, Fr.some (x0.trans hx1).size, E.alloc _⟩
  · rw [Rat.num_intCast, Rat.den_intCast, len1]
  · rw [Rat.num_intCast]
    exact (hr1.touch (Touch.three (lo := w.heap.size) (hi := W.heap.size) _ (Nat.le_refl _) (by rw [Z0.out]; omega) _ _ _) hf1.out).ext ((Ext.refl _).alloc _)
  · rw [Rat.den_intCast, len1]; simpa using R

theorem mkRat_num_sign (x : Int) (y : Nat) (h : 0 < y) : (mkRat x y).num.sign = x.sign := by
  have hg : (0 : Int) < (Nat.gcd y x.natAbs : Nat) := by have := Nat.gcd_pos_of_pos_left x.natAbs h; omega
  have hd : ((Nat.gcd y x.natAbs : Nat) : Int) ∣ x := Int.ofNat_dvd_left.2 (Nat.gcd_dvd_right _ _)
  rw [Rat.num_mkRat, if_neg (by omega)]
  obtain ⟨z, hz⟩ := hd
  generalize ((Nat.gcd y x.natAbs : Nat) : Int) = G at *
  subst hz
  rw [Int.mul_ediv_cancel_left _ (by omega), Int.sign_mul, Int.sign_eq_one_of_pos hg, Int.one_mul]

set_option maxHeartbeats 1000000 in
/-- rational.Sign. -/
theorem rat_Sign (w : World) (s : Bool) (a b : Option Addr) (k c j d n m : Nat) (h : Raw w a k c n) (g : Raw w b j d m) :
    Calls Tryz.prog 94 #[.agg #[.bool s, .slice a k c, .slice b j d]] w fun e w' => e = .returned (.int .i64 (mkRat (sgn s n) m).num.sign) ∧ Ext w w' := by
  go_enter Tryz.func94, Tryz.ntmps94
  go_wp2_with fail
  obtain ⟨W, hW, x0, Z0, A0⟩ := boxes1 w 55 [.bool s, .slice a k c, .slice b j d]
  rw [← hW]
  clear hW
  obtain ⟨k0_0, k0_1, k0_2, f0_0, f0_1, f0_2⟩ := box3 A0 (Ext.refl _)
  have z0 := (A0.ext (Ext.refl _)).lt
  refine (rat_parts _ _ _ _ _ _ _ _ _ _ (h.ext x0) (g.ext x0)).mono ?_
  rintro e w1 ⟨s1, a1, k1, c1, n1, e1, j1, d1, m1, rfl, h1, g1, hm1, hv, l1, l2, hx1⟩
  have HV := Lib.hid hv; clear hv
  go_wp2_with fail
  refine (int_Sign _ _ _ _ _ _ (h1.ext ((Ext.refl _).alloc _))).mono ?_
  rintro e w2 ⟨rfl, hx2⟩
  go_wp2
  go_ret
  exact ⟨ret_int (by rw [← HV.out, mkRat_num_sign _ _ hm1]), ((x0.trans hx1).alloc _).trans hx2⟩

end Go.Proofs.YtgihpfkjpfanmaaGreat


namespace Go.Proofs.YtgihpfkjpfanmaaGreat
open Go.RowKit

theorem Raw.setNew {w1 w : World} {a : Option Addr} {k c n : Nat} (h : Raw w1 a k c n) (h2 : Raw w a k c n) (p : Addr) (v : Value) (hp : w1.heap.size ≤ p.block) : Raw (w.setCell p v) a k c n := by
  obtain ⟨l, e1, e2, hl⟩ := h2
  obtain ⟨l', e1', _, hl'⟩ := h
  refine ⟨l, e1, e2, hl.le, hl.cap, hl.short, hl.nul, hl.small, fun i hi => ?_⟩
  obtain ⟨b, o, ha, hc⟩ := hl.cell i hi
  obtain ⟨b', o', ha', hc'⟩ := hl'.cell i (by omega)
  refine ⟨b, o, ha, ?_⟩
  rw [ha] at ha'; cases ha'
  have := block_lt hc'
  rw [World.cell?_setCell_other _ _ _ _ (by intro e; rw [e] at hp; simp only at this hp; omega)]
  exact hc

theorem sgn_num (z : Int) : sgn (decide (z < 0)) z.natAbs = z := by
  unfold sgn; by_cases h : z < 0 <;> simp [h] <;> omega

theorem small_mul {x1 x2 : Int} (h1 : -2147483648 < x1) (h2 : x1 < 2147483648) (h3 : -2147483648 < x2) (h4 : x2 < 2147483648) : -4611686018427387904 ≤ x1 * x2 ∧ x1 * x2 ≤ 4611686018427387904 := by
  have e : (x1 * x2).natAbs ≤ 2147483648 * 2147483648 := by rw [Int.natAbs_mul]; exact Nat.mul_le_mul (by omega) (by omega)
  omega
theorem small_mul_nat {y1 y2 : Nat} (h1 : 0 < y1) (h2 : y1 < 2147483648) (h3 : 0 < y2) (h4 : y2 < 2147483648) : 0 < y1 * y2 ∧ y1 * y2 ≤ 4611686018427387904 := by
  have e : y1 * y2 ≤ 2147483648 * 2147483648 := Nat.mul_le_mul (by omega) (by omega)
  exact ⟨Nat.mul_pos h1 h3, by omega⟩
theorem len_mul (n m : Nat) : len (n * m) ≤ len n + len m := by
  rw [len_le, Nat.pow_add]
  exact Nat.mul_lt_mul'' (lt_pow_len n) (lt_pow_len m)
theorem len_add (n m : Nat) : len (n + m) ≤ max (len n) (len m) + 1 := by
  rw [len_le, Nat.pow_succ]
  have h1 : n < 4294967296 ^ (max (len n) (len m)) := len_le.1 (Nat.le_max_left _ _)
  have h2 : m < 4294967296 ^ (max (len n) (len m)) := len_le.1 (Nat.le_max_right _ _)
  omega

set_option maxHeartbeats 1000000 in
/-- rational.Mul, small numbers. -/
theorem rat_Mul_small (w : World) (s : Bool) (a b : Option Addr) (k c j d n m : Nat) (h : Raw w a k c n) (g : Raw w b j d m) (s' : Bool) (a' b' : Option Addr) (k' c' j' d' n' m' : Nat) (h' : Raw w a' k' c' n') (g' : Raw w b' j' d' m') (hn : n < 2147483648) (hm : m < 2147483648) (hn' : n' < 2147483648) (hm' : m' < 2147483648) :
    Calls Tryz.prog 96 #[.agg #[.bool s, .slice a k c, .slice b j d], .agg #[.bool s', .slice a' k' c', .slice b' j' d']] w (NewRat (mkRat (sgn s n) m * mkRat (sgn s' n') m') w) := by
  have HN := Lib.hid hn; have HM := Lib.hid hm; have HN' := Lib.hid hn'; have HM' := Lib.hid hm'; clear hn hm hn' hm'
  go_enter Tryz.func96, Tryz.ntmps96
  go_wp2_with fail
  obtain ⟨W, hW, x0, Z0, A0, A1, A2⟩ := boxes3 w 55 [.bool s, .slice a k c, .slice b j d] 55 [.bool s', .slice a' k' c', .slice b' j' d'] 55 [.bool false, .slice none 0 0, .slice none 0 0]
  rw [← hW]
  clear hW
  obtain ⟨k0_0, k0_1, k0_2, f0_0, f0_1, f0_2⟩ := box3 A0 (Ext.refl _)
  have z0 := (A0.ext (Ext.refl _)).lt
  obtain ⟨k1_0, k1_1, k1_2, f1_0, f1_1, f1_2⟩ := box3 A1 (Ext.refl _)
  have z1 := (A1.ext (Ext.refl _)).lt
  obtain ⟨k2_0, k2_1, k2_2, f2_0, f2_1, f2_2⟩ := box3 A2 (Ext.refl _)
  have z2 := (A2.ext (Ext.refl _)).lt
  refine (rat_small _ _ _ _ _ _ _ _ _ _ (h.ext x0) (g.ext x0) HN.out HM.out).mono ?_
  rintro e w1 ⟨x, y, rfl, hx1, hx2, hy1, hy2, hxy, hx⟩
  have HXY := Lib.hid hxy; clear hxy
  obtain ⟨k0_0, k0_1, k0_2, f0_0, f0_1, f0_2⟩ := box3 A0 hx
  have z0 := (A0.ext hx).lt
  obtain ⟨k1_0, k1_1, k1_2, f1_0, f1_1, f1_2⟩ := box3 A1 hx
  have z1 := (A1.ext hx).lt
  obtain ⟨k2_0, k2_1, k2_2, f2_0, f2_1, f2_2⟩ := box3 A2 hx
  have z2 := (A2.ext hx).lt
  go_wp2_with fail
  refine (rat_small _ _ _ _ _ _ _ _ _ _ ((h'.ext x0).ext hx) ((g'.ext x0).ext hx) HN'.out HM'.out).mono ?_
  rintro e w2 ⟨x', y', rfl, hx1', hx2', hy1', hy2', hxy', hx'⟩
  have HXY' := Lib.hid hxy'; clear hxy'
  obtain ⟨k0_0, k0_1, k0_2, f0_0, f0_1, f0_2⟩ := box3 A0 (hx.trans hx')
  have z0 := (A0.ext (hx.trans hx')).lt
  obtain ⟨k1_0, k1_1, k1_2, f1_0, f1_1, f1_2⟩ := box3 A1 (hx.trans hx')
  have z1 := (A1.ext (hx.trans hx')).lt
  obtain ⟨k2_0, k2_1, k2_2, f2_0, f2_1, f2_2⟩ := box3 A2 (hx.trans hx')
  have z2 := (A2.ext (hx.trans hx')).lt
  obtain ⟨m1, m2⟩ := small_mul hx1 hx2 hx1' hx2'
  obtain ⟨m3, m4⟩ := small_mul_nat hy1 hy2 hy1' hy2'
  have m3' : 0 < (y : Int) * (y' : Int) := by rw [← Int.natCast_mul]; omega
  have m4' : (y : Int) * (y' : Int) ≤ 4611686018427387904 := by rw [← Int.natCast_mul]; omega
  go_wp2_with fail
  rw [← Int.natCast_mul]
  refine (rat_quotient _ _ _ (by omega) (by omega) m3 (by omega)).mono ?_
  intro e wz hN
  rw [← Rat.mkRat_mul_mkRat, HXY.out, HXY'.out] at hN
  obtain ⟨az, cz, az', cz', rfl, hrz, hfz, hrz', hfz', hxz⟩ := id hN
  obtain ⟨k0_0, k0_1, k0_2, f0_0, f0_1, f0_2⟩ := box3 A0 ((hx.trans hx').trans hxz)
  have z0 := (A0.ext ((hx.trans hx').trans hxz)).lt
  obtain ⟨k1_0, k1_1, k1_2, f1_0, f1_1, f1_2⟩ := box3 A1 ((hx.trans hx').trans hxz)
  have z1 := (A1.ext ((hx.trans hx').trans hxz)).lt
  obtain ⟨k2_0, k2_1, k2_2, f2_0, f2_1, f2_2⟩ := box3 A2 ((hx.trans hx').trans hxz)
  have z2 := (A2.ext ((hx.trans hx').trans hxz)).lt
  go_wp2
  exact bodyPost_ret (by simp [results, Tryz.results96, go_sem, *]) rfl (NewRat.touch (hN.base (hx.trans hx')) x0 (Touch.three _ (by omega) (by rw [Z0.out]; omega) _ _ _))

set_option maxHeartbeats 2000000 in
set_option maxRecDepth 100000 in
/-- rational.Mul, a large number. -/
theorem rat_Mul_large (w : World) (s : Bool) (a b : Option Addr) (k c j d n m : Nat) (h : Raw w a k c n) (g : Raw w b j d m) (s' : Bool) (a' b' : Option Addr) (k' c' j' d' n' m' : Nat) (h' : Raw w a' k' c' n') (g' : Raw w b' j' d' m') (b1 : len n < 100000000) (b2 : len m < 100000000) (b1' : len n' < 100000000) (b2' : len m' < 100000000) (hl : ¬ ((n < 2147483648 ∧ m < 2147483648) ∧ (n' < 2147483648 ∧ m' < 2147483648))) :
    Calls Tryz.prog 96 #[.agg #[.bool s, .slice a k c, .slice b j d], .agg #[.bool s', .slice a' k' c', .slice b' j' d']] w (NewRat (mkRat (sgn s n) m * mkRat (sgn s' n') m') w) := by
  by_cases ha : n < 2147483648 ∧ m < 2147483648
  · have hb : ¬ (n' < 2147483648 ∧ m' < 2147483648) := fun h => hl ⟨ha, h⟩
    have HA := Lib.hid ha; have HB := Lib.hid hb; clear ha hb hl
    go_enter Tryz.func96, Tryz.ntmps96
    go_wp2_with fail
    obtain ⟨W, hW, x0, Z0, A0, A1, A2⟩ := boxes3 w 55 [.bool s, .slice a k c, .slice b j d] 55 [.bool s', .slice a' k' c', .slice b' j' d'] 55 [.bool false, .slice none 0 0, .slice none 0 0]
    rw [← hW]
    clear hW
    obtain ⟨k0_0, k0_1, k0_2, f0_0, f0_1, f0_2⟩ := box3 A0 (Ext.refl _)
    have z0 := (A0.ext (Ext.refl _)).lt
    obtain ⟨k1_0, k1_1, k1_2, f1_0, f1_1, f1_2⟩ := box3 A1 (Ext.refl _)
    have z1 := (A1.ext (Ext.refl _)).lt
    obtain ⟨k2_0, k2_1, k2_2, f2_0, f2_1, f2_2⟩ := box3 A2 (Ext.refl _)
    have z2 := (A2.ext (Ext.refl _)).lt
    refine (rat_small _ _ _ _ _ _ _ _ _ _ (h.ext x0) (g.ext x0) HA.out.1 HA.out.2).mono ?_
    rintro e w1 ⟨x, y, rfl, _, _, _, _, _, hx⟩
    obtain ⟨k0_0, k0_1, k0_2, f0_0, f0_1, f0_2⟩ := box3 A0 hx
    have z0 := (A0.ext hx).lt
    obtain ⟨k1_0, k1_1, k1_2, f1_0, f1_1, f1_2⟩ := box3 A1 hx
    have z1 := (A1.ext hx).lt
    obtain ⟨k2_0, k2_1, k2_2, f2_0, f2_1, f2_2⟩ := box3 A2 hx
    have z2 := (A2.ext hx).lt
    go_wp2_with fail
    refine (rat_small_no _ _ _ _ _ _ _ _ _ _ ((h'.ext x0).ext hx) ((g'.ext x0).ext hx) HB.out).mono ?_
    rintro e w2 ⟨rfl, hx'⟩
    have y2 : Ext W w2 := hx.trans hx'
    obtain ⟨k0_0, k0_1, k0_2, f0_0, f0_1, f0_2⟩ := box3 A0 y2
    have z0 := (A0.ext y2).lt
    obtain ⟨k1_0, k1_1, k1_2, f1_0, f1_1, f1_2⟩ := box3 A1 y2
    have z1 := (A1.ext y2).lt
    obtain ⟨k2_0, k2_1, k2_2, f2_0, f2_1, f2_2⟩ := box3 A2 y2
    have z2 := (A2.ext y2).lt
    go_wp2_with fail
    refine (rat_parts _ _ _ _ _ _ _ _ _ _ ((h.ext x0).ext y2) ((g.ext x0).ext y2)).mono ?_
    rintro e w3 ⟨s1, a1, k1, c1, n1, e1, j1, d1, m1, rfl, h1, g1, hm1, hv, l1, l2, hx3⟩
    have HV := Lib.hid hv; clear hv
    have y3 : Ext W w3 := y2.trans hx3
    obtain ⟨k0_0, k0_1, k0_2, f0_0, f0_1, f0_2⟩ := box3 A0 y3
    have z0 := (A0.ext y3).lt
    obtain ⟨k1_0, k1_1, k1_2, f1_0, f1_1, f1_2⟩ := box3 A1 y3
    have z1 := (A1.ext y3).lt
    obtain ⟨k2_0, k2_1, k2_2, f2_0, f2_1, f2_2⟩ := box3 A2 y3
    have z2 := (A2.ext y3).lt
    have P3 := Arr.alloc w3 53 [.bool s1, .slice a1 k1 c1]
    have y3' := y3.alloc (.cells #[.bool s1, .slice a1 k1 c1] 53)
    go_wp2_with fail
    refine (rat_parts _ _ _ _ _ _ _ _ _ _ ((h'.ext x0).ext y3') ((g'.ext x0).ext y3')).mono ?_
    rintro e w4 ⟨s2, a2, k2, c2, n2, e2, j2, d2, m2, rfl, h2, g2, hm2, hv2, l3, l4, hx4⟩
    have HV2 := Lib.hid hv2; clear hv2
    have y4 : Ext W w4 := y3'.trans hx4
    obtain ⟨k0_0, k0_1, k0_2, f0_0, f0_1, f0_2⟩ := box3 A0 y4
    have z0 := (A0.ext y4).lt
    obtain ⟨k1_0, k1_1, k1_2, f1_0, f1_1, f1_2⟩ := box3 A1 y4
    have z1 := (A1.ext y4).lt
    obtain ⟨k2_0, k2_1, k2_2, f2_0, f2_1, f2_2⟩ := box3 A2 y4
    have z2 := (A2.ext y4).lt
    obtain ⟨p0, p1, p2, p3⟩ := box2 P3 hx4
    have pz := (P3.ext hx4).lt
    have Q4 := Arr.alloc w4 53 [.bool s2, .slice a2 k2 c2]
    have y4' := y4.alloc (.cells #[.bool s2, .slice a2 k2 c2] 53)
    have v4 := ((Ext.refl w3).alloc (.cells #[.bool s1, .slice a1 k1 c1] 53)).trans (hx4.alloc (.cells #[.bool s2, .slice a2 k2 c2] 53))
    have u4 := (Ext.refl w4).alloc (.cells #[.bool s2, .slice a2 k2 c2] 53)
    go_wp2_with fail
    refine (int_Mul _ _ _ _ _ _ _ _ _ _ _ (h1.ext v4) (h2.ext u4) (by omega) (by omega)).mono ?_
    rintro e w5 ⟨a5, c5, rfl, hr5, hf5, hx5⟩
    have y5 : Ext W w5 := y4'.trans hx5
    obtain ⟨k0_0, k0_1, k0_2, f0_0, f0_1, f0_2⟩ := box3 A0 y5
    have z0 := (A0.ext y5).lt
    obtain ⟨k1_0, k1_1, k1_2, f1_0, f1_1, f1_2⟩ := box3 A1 y5
    have z1 := (A1.ext y5).lt
    obtain ⟨k2_0, k2_1, k2_2, f2_0, f2_1, f2_2⟩ := box3 A2 y5
    have z2 := (A2.ext y5).lt
    go_wp2_with fail
    refine (nat_Mul _ _ _ _ _ _ _ _ _ ((g1.ext v4).ext hx5) ((g2.ext u4).ext hx5) (by omega) (by omega)).mono ?_
    rintro e w6 ⟨a6, c6, rfl, hr6, hf6, hx6⟩
    have y6 : Ext W w6 := y5.trans hx6
    obtain ⟨k0_0, k0_1, k0_2, f0_0, f0_1, f0_2⟩ := box3 A0 y6
    have z0 := (A0.ext y6).lt
    obtain ⟨k1_0, k1_1, k1_2, f1_0, f1_1, f1_2⟩ := box3 A1 y6
    have z1 := (A1.ext y6).lt
    obtain ⟨k2_0, k2_1, k2_2, f2_0, f2_1, f2_2⟩ := box3 A2 y6
    have z2 := (A2.ext y6).lt
    have bl1 : len (sgn s1 n1 * sgn s2 n2).natAbs ≤ len n1 + len n2 := by rw [Int.natAbs_mul, sgn_natAbs, sgn_natAbs]; exact len_mul _ _
    have bl2 := len_mul m1 m2
    go_wp2_with fail
    refine (rat_lowest _ _ _ _ _ _ _ _ _ _ (hr5.ext hx6) hr6 (Nat.mul_pos hm1 hm2) (by omega) (by omega)).mono ?_
    intro e wz hN
    rw [sgn_num, ← Rat.mkRat_mul_mkRat, HV.out, HV2.out] at hN
    obtain ⟨az, cz, az', cz', rfl, hrz, hfz, hrz', hfz', hxz⟩ := id hN
    obtain ⟨k0_0, k0_1, k0_2, f0_0, f0_1, f0_2⟩ := box3 A0 (y6.trans hxz)
    have z0 := (A0.ext (y6.trans hxz)).lt
    obtain ⟨k1_0, k1_1, k1_2, f1_0, f1_1, f1_2⟩ := box3 A1 (y6.trans hxz)
    have z1 := (A1.ext (y6.trans hxz)).lt
    obtain ⟨k2_0, k2_1, k2_2, f2_0, f2_1, f2_2⟩ := box3 A2 (y6.trans hxz)
    have z2 := (A2.ext (y6.trans hxz)).lt
    go_wp2
    exact bodyPost_ret (by simp [results, Tryz.results96, go_sem, *]) rfl (NewRat.touch (hN.base y6) x0 (Touch.three _ (by omega) (by rw [Z0.out]; omega) _ _ _))
  · by_cases hb : n' < 2147483648 ∧ m' < 2147483648
    · have HA := Lib.hid ha; have HB := Lib.hid hb; clear ha hb hl
      go_enter Tryz.func96, Tryz.ntmps96
      go_wp2_with fail
      obtain ⟨W, hW, x0, Z0, A0, A1, A2⟩ := boxes3 w 55 [.bool s, .slice a k c, .slice b j d] 55 [.bool s', .slice a' k' c', .slice b' j' d'] 55 [.bool false, .slice none 0 0, .slice none 0 0]
      rw [← hW]
      clear hW
      obtain ⟨k0_0, k0_1, k0_2, f0_0, f0_1, f0_2⟩ := box3 A0 (Ext.refl _)
      have z0 := (A0.ext (Ext.refl _)).lt
      obtain ⟨k1_0, k1_1, k1_2, f1_0, f1_1, f1_2⟩ := box3 A1 (Ext.refl _)
      have z1 := (A1.ext (Ext.refl _)).lt
      obtain ⟨k2_0, k2_1, k2_2, f2_0, f2_1, f2_2⟩ := box3 A2 (Ext.refl _)
      have z2 := (A2.ext (Ext.refl _)).lt
      refine (rat_small_no _ _ _ _ _ _ _ _ _ _ (h.ext x0) (g.ext x0) HA.out).mono ?_
      rintro e w1 ⟨rfl, hx⟩
      obtain ⟨k0_0, k0_1, k0_2, f0_0, f0_1, f0_2⟩ := box3 A0 hx
      have z0 := (A0.ext hx).lt
      obtain ⟨k1_0, k1_1, k1_2, f1_0, f1_1, f1_2⟩ := box3 A1 hx
      have z1 := (A1.ext hx).lt
      obtain ⟨k2_0, k2_1, k2_2, f2_0, f2_1, f2_2⟩ := box3 A2 hx
      have z2 := (A2.ext hx).lt
      go_wp2_with fail
      refine (rat_small _ _ _ _ _ _ _ _ _ _ ((h'.ext x0).ext hx) ((g'.ext x0).ext hx) HB.out.1 HB.out.2).mono ?_
      rintro e w2 ⟨x', y', rfl, _, _, _, _, _, hx'⟩
      have y2 : Ext W w2 := hx.trans hx'
      obtain ⟨k0_0, k0_1, k0_2, f0_0, f0_1, f0_2⟩ := box3 A0 y2
      have z0 := (A0.ext y2).lt
      obtain ⟨k1_0, k1_1, k1_2, f1_0, f1_1, f1_2⟩ := box3 A1 y2
      have z1 := (A1.ext y2).lt
      obtain ⟨k2_0, k2_1, k2_2, f2_0, f2_1, f2_2⟩ := box3 A2 y2
      have z2 := (A2.ext y2).lt
      go_wp2_with fail
      refine (rat_parts _ _ _ _ _ _ _ _ _ _ ((h.ext x0).ext y2) ((g.ext x0).ext y2)).mono ?_
      rintro e w3 ⟨s1, a1, k1, c1, n1, e1, j1, d1, m1, rfl, h1, g1, hm1, hv, l1, l2, hx3⟩
      have HV := Lib.hid hv; clear hv
      have y3 : Ext W w3 := y2.trans hx3
      obtain ⟨k0_0, k0_1, k0_2, f0_0, f0_1, f0_2⟩ := box3 A0 y3
      have z0 := (A0.ext y3).lt
      obtain ⟨k1_0, k1_1, k1_2, f1_0, f1_1, f1_2⟩ := box3 A1 y3
      have z1 := (A1.ext y3).lt
      obtain ⟨k2_0, k2_1, k2_2, f2_0, f2_1, f2_2⟩ := box3 A2 y3
      have z2 := (A2.ext y3).lt
      have P3 := Arr.alloc w3 53 [.bool s1, .slice a1 k1 c1]
      have y3' := y3.alloc (.cells #[.bool s1, .slice a1 k1 c1] 53)
      go_wp2_with fail
      refine (rat_parts _ _ _ _ _ _ _ _ _ _ ((h'.ext x0).ext y3') ((g'.ext x0).ext y3')).mono ?_
      rintro e w4 ⟨s2, a2, k2, c2, n2, e2, j2, d2, m2, rfl, h2, g2, hm2, hv2, l3, l4, hx4⟩
      have HV2 := Lib.hid hv2; clear hv2
      have y4 : Ext W w4 := y3'.trans hx4
      obtain ⟨k0_0, k0_1, k0_2, f0_0, f0_1, f0_2⟩ := box3 A0 y4
      have z0 := (A0.ext y4).lt
      obtain ⟨k1_0, k1_1, k1_2, f1_0, f1_1, f1_2⟩ := box3 A1 y4
      have z1 := (A1.ext y4).lt
      obtain ⟨k2_0, k2_1, k2_2, f2_0, f2_1, f2_2⟩ := box3 A2 y4
      have z2 := (A2.ext y4).lt
      obtain ⟨p0, p1, p2, p3⟩ := box2 P3 hx4
      have pz := (P3.ext hx4).lt
      have Q4 := Arr.alloc w4 53 [.bool s2, .slice a2 k2 c2]
      have y4' := y4.alloc (.cells #[.bool s2, .slice a2 k2 c2] 53)
      have v4 := ((Ext.refl w3).alloc (.cells #[.bool s1, .slice a1 k1 c1] 53)).trans (hx4.alloc (.cells #[.bool s2, .slice a2 k2 c2] 53))
      have u4 := (Ext.refl w4).alloc (.cells #[.bool s2, .slice a2 k2 c2] 53)
      go_wp2_with fail
      refine (int_Mul _ _ _ _ _ _ _ _ _ _ _ (h1.ext v4) (h2.ext u4) (by omega) (by omega)).mono ?_
      rintro e w5 ⟨a5, c5, rfl, hr5, hf5, hx5⟩
      have y5 : Ext W w5 := y4'.trans hx5
      obtain ⟨k0_0, k0_1, k0_2, f0_0, f0_1, f0_2⟩ := box3 A0 y5
      have z0 := (A0.ext y5).lt
      obtain ⟨k1_0, k1_1, k1_2, f1_0, f1_1, f1_2⟩ := box3 A1 y5
      have z1 := (A1.ext y5).lt
      obtain ⟨k2_0, k2_1, k2_2, f2_0, f2_1, f2_2⟩ := box3 A2 y5
      have z2 := (A2.ext y5).lt
      go_wp2_with fail
      refine (nat_Mul _ _ _ _ _ _ _ _ _ ((g1.ext v4).ext hx5) ((g2.ext u4).ext hx5) (by omega) (by omega)).mono ?_
      rintro e w6 ⟨a6, c6, rfl, hr6, hf6, hx6⟩
      have y6 : Ext W w6 := y5.trans hx6
      obtain ⟨k0_0, k0_1, k0_2, f0_0, f0_1, f0_2⟩ := box3 A0 y6
      have z0 := (A0.ext y6).lt
      obtain ⟨k1_0, k1_1, k1_2, f1_0, f1_1, f1_2⟩ := box3 A1 y6
      have z1 := (A1.ext y6).lt
      obtain ⟨k2_0, k2_1, k2_2, f2_0, f2_1, f2_2⟩ := box3 A2 y6
      have z2 := (A2.ext y6).lt
      have bl1 : len (sgn s1 n1 * sgn s2 n2).natAbs ≤ len n1 + len n2 := by rw [Int.natAbs_mul, sgn_natAbs, sgn_natAbs]; exact len_mul _ _
      have bl2 := len_mul m1 m2
      go_wp2_with fail
      refine (rat_lowest _ _ _ _ _ _ _ _ _ _ (hr5.ext hx6) hr6 (Nat.mul_pos hm1 hm2) (by omega) (by omega)).mono ?_
      intro e wz hN
      rw [sgn_num, ← Rat.mkRat_mul_mkRat, HV.out, HV2.out] at hN
      obtain ⟨az, cz, az', cz', rfl, hrz, hfz, hrz', hfz', hxz⟩ := id hN
      obtain ⟨k0_0, k0_1, k0_2, f0_0, f0_1, f0_2⟩ := box3 A0 (y6.trans hxz)
      have z0 := (A0.ext (y6.trans hxz)).lt
      obtain ⟨k1_0, k1_1, k1_2, f1_0, f1_1, f1_2⟩ := box3 A1 (y6.trans hxz)
      have z1 := (A1.ext (y6.trans hxz)).lt
      obtain ⟨k2_0, k2_1, k2_2, f2_0, f2_1, f2_2⟩ := box3 A2 (y6.trans hxz)
      have z2 := (A2.ext (y6.trans hxz)).lt
      go_wp2
      exact bodyPost_ret (by simp [results, Tryz.results96, go_sem, *]) rfl (NewRat.touch (hN.base y6) x0 (Touch.three _ (by omega) (by rw [Z0.out]; omega) _ _ _))
    · have HA := Lib.hid ha; have HB := Lib.hid hb; clear ha hb hl
      go_enter Tryz.func96, Tryz.ntmps96
      go_wp2_with fail
      obtain ⟨W, hW, x0, Z0, A0, A1, A2⟩ := boxes3 w 55 [.bool s, .slice a k c, .slice b j d] 55 [.bool s', .slice a' k' c', .slice b' j' d'] 55 [.bool false, .slice none 0 0, .slice none 0 0]
      rw [← hW]
      clear hW
      obtain ⟨k0_0, k0_1, k0_2, f0_0, f0_1, f0_2⟩ := box3 A0 (Ext.refl _)
      have z0 := (A0.ext (Ext.refl _)).lt
      obtain ⟨k1_0, k1_1, k1_2, f1_0, f1_1, f1_2⟩ := box3 A1 (Ext.refl _)
      have z1 := (A1.ext (Ext.refl _)).lt
      obtain ⟨k2_0, k2_1, k2_2, f2_0, f2_1, f2_2⟩ := box3 A2 (Ext.refl _)
      have z2 := (A2.ext (Ext.refl _)).lt
      refine (rat_small_no _ _ _ _ _ _ _ _ _ _ (h.ext x0) (g.ext x0) HA.out).mono ?_
      rintro e w1 ⟨rfl, hx⟩
      obtain ⟨k0_0, k0_1, k0_2, f0_0, f0_1, f0_2⟩ := box3 A0 hx
      have z0 := (A0.ext hx).lt
      obtain ⟨k1_0, k1_1, k1_2, f1_0, f1_1, f1_2⟩ := box3 A1 hx
      have z1 := (A1.ext hx).lt
      obtain ⟨k2_0, k2_1, k2_2, f2_0, f2_1, f2_2⟩ := box3 A2 hx
      have z2 := (A2.ext hx).lt
      go_wp2_with fail
      refine (rat_small_no _ _ _ _ _ _ _ _ _ _ ((h'.ext x0).ext hx) ((g'.ext x0).ext hx) HB.out).mono ?_
      rintro e w2 ⟨rfl, hx'⟩
      have y2 : Ext W w2 := hx.trans hx'
      obtain ⟨k0_0, k0_1, k0_2, f0_0, f0_1, f0_2⟩ := box3 A0 y2
      have z0 := (A0.ext y2).lt
      obtain ⟨k1_0, k1_1, k1_2, f1_0, f1_1, f1_2⟩ := box3 A1 y2
      have z1 := (A1.ext y2).lt
      obtain ⟨k2_0, k2_1, k2_2, f2_0, f2_1, f2_2⟩ := box3 A2 y2
      have z2 := (A2.ext y2).lt
      go_wp2_with fail
      refine (rat_parts _ _ _ _ _ _ _ _ _ _ ((h.ext x0).ext y2) ((g.ext x0).ext y2)).mono ?_
      rintro e w3 ⟨s1, a1, k1, c1, n1, e1, j1, d1, m1, rfl, h1, g1, hm1, hv, l1, l2, hx3⟩
      have HV := Lib.hid hv; clear hv
      have y3 : Ext W w3 := y2.trans hx3
      obtain ⟨k0_0, k0_1, k0_2, f0_0, f0_1, f0_2⟩ := box3 A0 y3
      have z0 := (A0.ext y3).lt
      obtain ⟨k1_0, k1_1, k1_2, f1_0, f1_1, f1_2⟩ := box3 A1 y3
      have z1 := (A1.ext y3).lt
      obtain ⟨k2_0, k2_1, k2_2, f2_0, f2_1, f2_2⟩ := box3 A2 y3
      have z2 := (A2.ext y3).lt
      have P3 := Arr.alloc w3 53 [.bool s1, .slice a1 k1 c1]
      have y3' := y3.alloc (.cells #[.bool s1, .slice a1 k1 c1] 53)
      go_wp2_with fail
      refine (rat_parts _ _ _ _ _ _ _ _ _ _ ((h'.ext x0).ext y3') ((g'.ext x0).ext y3')).mono ?_
      rintro e w4 ⟨s2, a2, k2, c2, n2, e2, j2, d2, m2, rfl, h2, g2, hm2, hv2, l3, l4, hx4⟩
      have HV2 := Lib.hid hv2; clear hv2
      have y4 : Ext W w4 := y3'.trans hx4
      obtain ⟨k0_0, k0_1, k0_2, f0_0, f0_1, f0_2⟩ := box3 A0 y4
      have z0 := (A0.ext y4).lt
      obtain ⟨k1_0, k1_1, k1_2, f1_0, f1_1, f1_2⟩ := box3 A1 y4
      have z1 := (A1.ext y4).lt
      obtain ⟨k2_0, k2_1, k2_2, f2_0, f2_1, f2_2⟩ := box3 A2 y4
      have z2 := (A2.ext y4).lt
      obtain ⟨p0, p1, p2, p3⟩ := box2 P3 hx4
      have pz := (P3.ext hx4).lt
      have Q4 := Arr.alloc w4 53 [.bool s2, .slice a2 k2 c2]
      have y4' := y4.alloc (.cells #[.bool s2, .slice a2 k2 c2] 53)
      have v4 := ((Ext.refl w3).alloc (.cells #[.bool s1, .slice a1 k1 c1] 53)).trans (hx4.alloc (.cells #[.bool s2, .slice a2 k2 c2] 53))
      have u4 := (Ext.refl w4).alloc (.cells #[.bool s2, .slice a2 k2 c2] 53)
      go_wp2_with fail
      refine (int_Mul _ _ _ _ _ _ _ _ _ _ _ (h1.ext v4) (h2.ext u4) (by omega) (by omega)).mono ?_
      rintro e w5 ⟨a5, c5, rfl, hr5, hf5, hx5⟩
      have y5 : Ext W w5 := y4'.trans hx5
      obtain ⟨k0_0, k0_1, k0_2, f0_0, f0_1, f0_2⟩ := box3 A0 y5
      have z0 := (A0.ext y5).lt
      obtain ⟨k1_0, k1_1, k1_2, f1_0, f1_1, f1_2⟩ := box3 A1 y5
      have z1 := (A1.ext y5).lt
      obtain ⟨k2_0, k2_1, k2_2, f2_0, f2_1, f2_2⟩ := box3 A2 y5
      have z2 := (A2.ext y5).lt
      go_wp2_with fail
      refine (nat_Mul _ _ _ _ _ _ _ _ _ ((g1.ext v4).ext hx5) ((g2.ext u4).ext hx5) (by omega) (by omega)).mono ?_
      rintro e w6 ⟨a6, c6, rfl, hr6, hf6, hx6⟩
      have y6 : Ext W w6 := y5.trans hx6
      obtain ⟨k0_0, k0_1, k0_2, f0_0, f0_1, f0_2⟩ := box3 A0 y6
      have z0 := (A0.ext y6).lt
      obtain ⟨k1_0, k1_1, k1_2, f1_0, f1_1, f1_2⟩ := box3 A1 y6
      have z1 := (A1.ext y6).lt
      obtain ⟨k2_0, k2_1, k2_2, f2_0, f2_1, f2_2⟩ := box3 A2 y6
      have z2 := (A2.ext y6).lt
      have bl1 : len (sgn s1 n1 * sgn s2 n2).natAbs ≤ len n1 + len n2 := by rw [Int.natAbs_mul, sgn_natAbs, sgn_natAbs]; exact len_mul _ _
      have bl2 := len_mul m1 m2
      go_wp2_with fail
      refine (rat_lowest _ _ _ _ _ _ _ _ _ _ (hr5.ext hx6) hr6 (Nat.mul_pos hm1 hm2) (by omega) (by omega)).mono ?_
      intro e wz hN
      rw [sgn_num, ← Rat.mkRat_mul_mkRat, HV.out, HV2.out] at hN
      obtain ⟨az, cz, az', cz', rfl, hrz, hfz, hrz', hfz', hxz⟩ := id hN
      obtain ⟨k0_0, k0_1, k0_2, f0_0, f0_1, f0_2⟩ := box3 A0 (y6.trans hxz)
      have z0 := (A0.ext (y6.trans hxz)).lt
      obtain ⟨k1_0, k1_1, k1_2, f1_0, f1_1, f1_2⟩ := box3 A1 (y6.trans hxz)
      have z1 := (A1.ext (y6.trans hxz)).lt
      obtain ⟨k2_0, k2_1, k2_2, f2_0, f2_1, f2_2⟩ := box3 A2 (y6.trans hxz)
      have z2 := (A2.ext (y6.trans hxz)).lt
      go_wp2
      exact bodyPost_ret (by simp [results, Tryz.results96, go_sem, *]) rfl (NewRat.touch (hN.base y6) x0 (Touch.three _ (by omega) (by rw [Z0.out]; omega) _ _ _))

/-- rational.Mul. -/
theorem rat_Mul (w : World) (s : Bool) (a b : Option Addr) (k c j d n m : Nat) (h : Raw w a k c n) (g : Raw w b j d m) (s' : Bool) (a' b' : Option Addr) (k' c' j' d' n' m' : Nat) (h' : Raw w a' k' c' n') (g' : Raw w b' j' d' m') (b1 : len n < 100000000) (b2 : len m < 100000000) (b1' : len n' < 100000000) (b2' : len m' < 100000000) :
    Calls Tryz.prog 96 #[.agg #[.bool s, .slice a k c, .slice b j d], .agg #[.bool s', .slice a' k' c', .slice b' j' d']] w (NewRat (mkRat (sgn s n) m * mkRat (sgn s' n') m') w) := by
  by_cases hl : (n < 2147483648 ∧ m < 2147483648) ∧ (n' < 2147483648 ∧ m' < 2147483648)
  · exact rat_Mul_small w _ _ _ _ _ _ _ _ _ h g _ _ _ _ _ _ _ _ _ h' g' hl.1.1 hl.1.2 hl.2.1 hl.2.2
  · exact rat_Mul_large w _ _ _ _ _ _ _ _ _ h g _ _ _ _ _ _ _ _ _ h' g' b1 b2 b1' b2' hl

end Go.Proofs.YtgihpfkjpfanmaaGreat
