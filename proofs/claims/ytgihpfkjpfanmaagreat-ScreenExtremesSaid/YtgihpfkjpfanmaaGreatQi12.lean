/- Texts of the proof: Ref12, Ref13, Ref14, Ap1, Sort, Ap2, Ap3, Ap4, Ev1, Ev3, Ev5, Ev6, Ev7, Ev8, Row, Ev10, Fa1, Fa4, Ap6, Ra5. -/
import Derived.Deep.DeepCutAuto
import Derived.Test.YtgihpfkjpfanmaaGreatChecked
import Derived.Lib.Strings
import Derived.Lib.Slices
import Derived.Lib.Small
import Derived.Lib.Walk
import Derived.Lib.BitFns
import Derived.Laws.AppendOwnNone
import Derived.Deep.LoopGhost
import Derived.KernelRfl
import Derived.WalkKit
import Derived.WalkSpells
import Derived.Sort.Grow
import Derived.Lib.Hide
import Derived.Laws.CopyOwn
import Derived.Laws.BitsAllLaws
import Derived.Deep.QuietTactic
import Derived.BigQuiet
import Derived.Test.YtgihpfkjpfanmaaGreatRows
import Derived.WalkLawsBesides
import Derived.Deep.RegionWith
import Derived.Deep.RegionHeld3
import Derived.Deep.CutBlock
import Derived.IntWalk
import Derived.Test.YtgihpfkjpfanmaaGreatProg
import Derived.Shelf.SlSortCmp.NoneTotal
import Derived.ProofKit
import Derived.OpenShut
import Derived.ShutString
import Derived.ChangeOld
import Derived.Below
import Derived.Test.YtgihpfkjpfanmaaGreatQi1
import Derived.Test.YtgihpfkjpfanmaaGreatQi2
import Derived.Test.YtgihpfkjpfanmaaGreatQi3
import Derived.Test.YtgihpfkjpfanmaaGreatQi4
import Derived.Test.YtgihpfkjpfanmaaGreatQi5
import Derived.Test.YtgihpfkjpfanmaaGreatQi6
import Derived.Test.YtgihpfkjpfanmaaGreatQi7
import Derived.Test.YtgihpfkjpfanmaaGreatQi8
import Derived.Test.YtgihpfkjpfanmaaGreatQi9
import Derived.Test.YtgihpfkjpfanmaaGreatQi10
import Derived.Test.YtgihpfkjpfanmaaGreatQi11
namespace Go.Proofs.YtgihpfkjpfanmaaGreat
open Go.RowKit

theorem cell_set3 {w : World} {b : Nat} {p : Addr} {x v0 v1 v2 : Value} (h : w.cell? p = some x) (hb : p.block ≠ b) : (((w.setCell ⟨b, 0, none⟩ v0).setCell ⟨b, 1, none⟩ v1).setCell ⟨b, 2, none⟩ v2).cell? p = some x := by
  rw [World.cell?_setCell_other _ _ _ _ (by intro e; exact hb (by rw [← e])), World.cell?_setCell_other _ _ _ _ (by intro e; exact hb (by rw [← e])), World.cell?_setCell_other _ _ _ _ (by intro e; exact hb (by rw [← e])), h]
theorem cell_alloc' {w : World} {o : Obj} {p : Addr} {x : Value} (h : w.cell? p = some x) : (w.alloc o).cell? p = some x := cell_ext ((Ext.refl _).alloc _) h
theorem cell_drew' {w : World} {p : Addr} {x : Value} (h : w.cell? p = some x) : w.drew.cell? p = some x := h
theorem Raw.alloc' {w : World} {a : Option Addr} {k c n : Nat} (h : Raw w a k c n) (o : Obj) : Raw (w.alloc o) a k c n := h.ext ((Ext.refl _).alloc _)
theorem Arr.alloc' {w : World} {b : Nat} {T : TypeId} {vs : List Value} (h : Arr w b T vs) (o : Obj) : Arr (w.alloc o) b T vs := h.ext ((Ext.refl _).alloc _)
theorem Arr.alloc2 (w : World) (o : Obj) (T : TypeId) (vs : List Value) : Arr ((w.alloc o).alloc (.cells vs.toArray T)) (w.heap.size + 1) T vs := by
  have h := Arr.alloc (w.alloc o) T vs
  rw [show (w.alloc o).heap.size = w.heap.size + 1 from by simp] at h
  exact h
theorem Arr.alloc_at {w : World} {b : Nat} (T : TypeId) (vs : List Value) (_ : Unit) (h : w.heap.size = b) : Arr (w.alloc (.cells vs.toArray T)) b T vs := h ▸ Arr.alloc w T vs
theorem Arr.set3 {w : World} {b : Nat} {T : TypeId} {x y z : Value} (h : Arr w b T [x, y, z]) (u v t : Value) : Arr (((w.setCell ⟨b, 0, none⟩ u).setCell ⟨b, 1, none⟩ v).setCell ⟨b, 2, none⟩ t) b T [u, v, t] := ((h.set 0 u).set 1 v).set 2 t
theorem Arr.other3 {w : World} {b b' : Nat} {T : TypeId} {vs : List Value} (h : Arr w b T vs) (u v t : Value) (hb : b' ≠ b) : Arr (((w.setCell ⟨b', 0, none⟩ u).setCell ⟨b', 1, none⟩ v).setCell ⟨b', 2, none⟩ t) b T vs := ((h.other _ _ hb).other _ _ hb).other _ _ hb

set_option maxHeartbeats 20000000 in
set_option maxRecDepth 100000 in
/-- ref03.Add, over its callees. -/
theorem r3_Add_walk (w : World) (s : Bool) (a b : Option Addr) (k c j d : Nat) (s' : Bool) (a' b' : Option Addr) (k' c' j' d' : Nat) (sP sQ s1 s2 s3 s4 sR : Bool) (nP dP nQ dQ n1 n2 n3 n4 nR dR : Nat) (hN : ∀ V, Ext w V → Calls Tryz.prog 74 #[.agg #[.bool s, .slice a k c, .slice b j d]] V (RatOf sP nP dP V)) (hN' : ∀ V, Ext w V → Calls Tryz.prog 74 #[.agg #[.bool s', .slice a' k' c', .slice b' j' d']] V (RatOf sQ nQ dQ V)) (hD : ∀ V, Ext w V → Calls Tryz.prog 78 #[.agg #[.bool s, .slice a k c, .slice b j d]] V (IntOf false dP V)) (hD' : ∀ V, Ext w V → Calls Tryz.prog 78 #[.agg #[.bool s', .slice a' k' c', .slice b' j' d']] V (IntOf false dQ V)) (hX : ∀ V a c b d, Raw V a (len nP) c nP → Raw V b (len dQ) d dQ → Calls Tryz.prog 77 #[.agg #[.bool sP, .slice a (len nP) c], .agg #[.bool false, .slice b (len dQ) d]] V (IntOf s1 n1 V)) (hY : ∀ V a c b d, Raw V a (len nQ) c nQ → Raw V b (len dP) d dP → Calls Tryz.prog 77 #[.agg #[.bool sQ, .slice a (len nQ) c], .agg #[.bool false, .slice b (len dP) d]] V (IntOf s2 n2 V)) (hA : ∀ V a c b d, Raw V a (len n1) c n1 → Raw V b (len n2) d n2 → Calls Tryz.prog 76 #[.agg #[.bool s1, .slice a (len n1) c], .agg #[.bool s2, .slice b (len n2) d]] V (IntOf s3 n3 V)) (hZ : ∀ V a c b d, Raw V a (len dP) c dP → Raw V b (len dQ) d dQ → Calls Tryz.prog 77 #[.agg #[.bool false, .slice a (len dP) c], .agg #[.bool false, .slice b (len dQ) d]] V (IntOf s4 n4 V)) (hM : ∀ V a c b d, Raw V a (len n3) c n3 → Raw V b (len n4) d n4 → Calls Tryz.prog 75 #[.agg #[.bool s3, .slice a (len n3) c], .agg #[.bool s4, .slice b (len n4) d]] V (RatOf sR nR dR V)) :
    Calls Tryz.prog 30 #[.agg #[.bool s, .slice a k c, .slice b j d], .agg #[.bool s', .slice a' k' c', .slice b' j' d']] w (RatOf sR nR dR w) := by
  have HN := Lib.hid hN; have HN' := Lib.hid hN'; have HD := Lib.hid hD; have HD' := Lib.hid hD'; have HX := Lib.hid hX; have HY := Lib.hid hY; have HA := Lib.hid hA; have HZ := Lib.hid hZ; have HM := Lib.hid hM; clear hN hN' hD hD' hX hY hA hZ hM
  have fd0 := Tryz.rat_num
  have fd1 := Tryz.rat_den
  go_enter Tryz.func30, Tryz.ntmps30
  go_wp2_with fail
  obtain ⟨W, hW, x0, Z0, A0, A1, A2⟩ := boxes3 w 55 [.bool s, .slice a k c, .slice b j d] 55 [.bool s', .slice a' k' c', .slice b' j' d'] 55 [.bool false, .slice none 0 0, .slice none 0 0]
  rw [← hW]
  clear hW
  obtain ⟨k0_0, k0_1, k0_2, f0_0, f0_1, f0_2⟩ := box3 A0 (Ext.refl _)
  have z0 := (A0.ext (Ext.refl _)).lt
  obtain ⟨k1_0, k1_1, k1_2, f1_0, f1_1, f1_2⟩ := box3 A1 (Ext.refl _)
  have z1 := (A1.ext (Ext.refl _)).lt
  obtain ⟨k2_0, k2_1, k2_2, f2_0, f2_1, f2_2⟩ := box3 A2 (Ext.refl _)
  have z2 := (A2.ext (Ext.refl _)).lt
  have sW0 : w.heap.size < W.heap.size := by rw [Z0.out]; omega
  have sW1 : w.heap.size + 1 < W.heap.size := by rw [Z0.out]; omega
  clear f0_0 f0_1 f0_2 f1_0 f1_1 f1_2 f2_0 f2_1 f2_2 k2_0 k2_1 k2_2 z2
  have tk1 : True := trivial
  go_cut [5, 6] (fun s5 s6 wx => ∃ (g5 g6 : Nat) (a1 b1 a2 b2 : Option Addr) (c1 d1 c2 d2 : Nat), s5 = .pointer (some ⟨g5, 0, none⟩) ∧ s6 = .pointer (some ⟨g6, 0, none⟩) ∧ W.heap.size ≤ g5 ∧ W.heap.size ≤ g6 ∧ Hid (Arr wx g5 55 [.bool sP, .slice a1 (len nP) c1, .slice b1 (len dP) d1]) ∧ Hid (Arr wx g6 55 [.bool sQ, .slice a2 (len nQ) c2, .slice b2 (len dQ) d2]) ∧ Raw wx a1 (len nP) c1 nP ∧ Raw wx a2 (len nQ) c2 nQ ∧ Ext W wx)
  case first =>
    go_region_held3 (fun w' => w'.cell? ⟨w.heap.size, 0, none⟩ = some (.bool s) ∧ w'.cell? ⟨w.heap.size, 1, none⟩ = some (.slice a k c) ∧ w'.cell? ⟨w.heap.size, 2, none⟩ = some (.slice b j d) ∧ w'.cell? ⟨w.heap.size + 1, 0, none⟩ = some (.bool s') ∧ w'.cell? ⟨w.heap.size + 1, 1, none⟩ = some (.slice a' k' c') ∧ w'.cell? ⟨w.heap.size + 1, 2, none⟩ = some (.slice b' j' d')) (first | with_reducible exact ⟨k0_0, k0_1, k0_2, k1_0, k1_1, k1_2⟩ | (refine ⟨?_, ?_, ?_, ?_, ?_, ?_⟩ <;> (repeat (with_reducible first | exact k0_0 | exact k0_1 | exact k0_2 | exact k1_0 | exact k1_1 | exact k1_2 | refine cell_set3 ?_ (by simp only; omega) | refine cell_alloc' ?_ | refine cell_drew' ?_)))) (first
      | (go_at_call 74; have _t := tk1; (with_reducible refine (HN.out _ (by repeat (first | exact x0 | exact Ext.refl _ | refine Ext.drew ?_ | refine Ext.alloc ?_ _))).mono ?_); rintro e w1 ⟨a1, c1, b1, d1, rfl, r1, f1, q1, g1, x1⟩; clear tk1 _t; have v1 : Ext W w1 := (by refine Ext.trans ?_ x1; repeat (with_reducible first | exact Ext.refl _ | refine Ext.drew ?_ | refine Ext.alloc ?_ _)); clear k0_0 k0_1 k0_2 k1_0 k1_1 k1_2; obtain ⟨k0_0, k0_1, k0_2, -, -, -⟩ := box3 A0 v1; obtain ⟨k1_0, k1_1, k1_2, -, -, -⟩ := box3 A1 v1; have z0 := (A0.ext v1).lt; have z1 := (A1.ext v1).lt; (first | (have y1 : Ext ((W.alloc (.cells #[.bool false, .slice none 0 0, .slice none 0 0] 55)).alloc (.cells #[.bool false, .slice none 0 0, .slice none 0 0] 55)) w1 := (by with_reducible exact Ext.trans (Ext.drew (Ext.refl _)) x1); have RC : Arr w1 (W.heap.size + 1) 55 [.bool false, .slice none 0 0, .slice none 0 0] := (Arr.alloc2 W (.cells #[.bool false, .slice none 0 0, .slice none 0 0] 55) 55 [.bool false, .slice none 0 0, .slice none 0 0]).ext y1; have RB : Arr w1 W.heap.size 55 [.bool false, .slice none 0 0, .slice none 0 0] := ((Arr.alloc W 55 [.bool false, .slice none 0 0, .slice none 0 0]).ext ((Ext.refl _).alloc (.cells #[.bool false, .slice none 0 0, .slice none 0 0] 55))).ext y1; obtain ⟨m0, m1, m2, m3, m4, m5⟩ := box3 RB (Ext.refl _); have mz := RB.lt; obtain ⟨l0, l1, l2, l3, l4, l5⟩ := box3 RC (Ext.refl _); have lz := RC.lt) | (have y1 : Ext (W.alloc (.cells #[.bool false, .slice none 0 0, .slice none 0 0] 55)) w1 := (by with_reducible exact Ext.trans (Ext.drew (Ext.refl _)) x1); have RB : Arr w1 W.heap.size 55 [.bool false, .slice none 0 0, .slice none 0 0] := (Arr.alloc W 55 [.bool false, .slice none 0 0, .slice none 0 0]).ext y1; obtain ⟨m0, m1, m2, m3, m4, m5⟩ := box3 RB (Ext.refl _); have mz := RB.lt) | skip))
      | (go_at_call 74; (with_reducible refine (HN'.out _ (by refine x0.trans ?_; repeat (first | exact v1 | refine Ext.drew ?_ | refine Ext.alloc ?_ _))).mono ?_); rintro e w2 ⟨a2, c2, b2, d2, rfl, r2, f2, q2, g2, x2⟩; have v2 : Ext W w2 := (by refine Ext.trans ?_ x2; repeat (with_reducible first | exact v1 | refine Ext.drew ?_ | refine Ext.alloc ?_ _)); clear k0_0 k0_1 k0_2 k1_0 k1_1 k1_2; obtain ⟨k0_0, k0_1, k0_2, -, -, -⟩ := box3 A0 v2; obtain ⟨k1_0, k1_1, k1_2, -, -, -⟩ := box3 A1 v2; have z0 := (A0.ext v2).lt; have z1 := (A1.ext v2).lt; (first | (have RB := RB.ext (by with_reducible exact x2); have RC := RC.ext x2; obtain ⟨m0, m1, m2, m3, m4, m5⟩ := box3 RB (Ext.refl _); have mz := RB.lt; obtain ⟨l0, l1, l2, l3, l4, l5⟩ := box3 RC (Ext.refl _); have lz := RC.lt) | (have y1 : Ext (w1.alloc (.cells #[.bool false, .slice none 0 0, .slice none 0 0] 55)) w2 := (by with_reducible exact x2); have nn1 := RB.lt; have RC : Arr w2 w1.heap.size 55 [.bool false, .slice none 0 0, .slice none 0 0] := (Arr.alloc w1 55 [.bool false, .slice none 0 0, .slice none 0 0]).ext y1; have RB := RB.ext (Ext.trans ((Ext.refl _).alloc (.cells #[.bool false, .slice none 0 0, .slice none 0 0] 55)) y1); obtain ⟨m0, m1, m2, m3, m4, m5⟩ := box3 RB (Ext.refl _); have mz := RB.lt; obtain ⟨l0, l1, l2, l3, l4, l5⟩ := box3 RC (Ext.refl _); have lz := RC.lt) | (have RB := RB.ext (by with_reducible exact x2); obtain ⟨m0, m1, m2, m3, m4, m5⟩ := box3 RB (Ext.refl _); have mz := RB.lt) | (have y1 : Ext ((w1.alloc (.cells #[.bool false, .slice none 0 0, .slice none 0 0] 55)).alloc (.cells #[.bool false, .slice none 0 0, .slice none 0 0] 55)) w2 := (by with_reducible exact x2); have RC : Arr w2 (w1.heap.size + 1) 55 [.bool false, .slice none 0 0, .slice none 0 0] := (Arr.alloc2 w1 (.cells #[.bool false, .slice none 0 0, .slice none 0 0] 55) 55 [.bool false, .slice none 0 0, .slice none 0 0]).ext y1; have RB : Arr w2 w1.heap.size 55 [.bool false, .slice none 0 0, .slice none 0 0] := ((Arr.alloc w1 55 [.bool false, .slice none 0 0, .slice none 0 0]).ext ((Ext.refl _).alloc (.cells #[.bool false, .slice none 0 0, .slice none 0 0] 55))).ext y1; obtain ⟨m0, m1, m2, m3, m4, m5⟩ := box3 RB (Ext.refl _); have mz := RB.lt; obtain ⟨l0, l1, l2, l3, l4, l5⟩ := box3 RC (Ext.refl _); have lz := RC.lt) | (have y1 : Ext (w1.alloc (.cells #[.bool false, .slice none 0 0, .slice none 0 0] 55)) w2 := (by with_reducible exact x2); have RB : Arr w2 w1.heap.size 55 [.bool false, .slice none 0 0, .slice none 0 0] := (Arr.alloc w1 55 [.bool false, .slice none 0 0, .slice none 0 0]).ext y1; obtain ⟨m0, m1, m2, m3, m4, m5⟩ := box3 RB (Ext.refl _); have mz := RB.lt) | skip)))
    all_goals go_wp2_with fail
    all_goals go_meet
    all_goals have sz1 := x1.size
    all_goals have sz2 := x2.size
    all_goals simp at sz1 sz2
    all_goals refine ⟨_, _, a1, b1, a2, b2, c1, d1, c2, d2, rfl, rfl, ?_, ?_, ?_, ?_, ?_, ?_, ?_⟩
    all_goals have y2 : Ext w1 w2 := (by refine Ext.trans ?_ x2; repeat (with_reducible first | exact Ext.refl _ | refine Ext.drew ?_ | refine Ext.alloc ?_ _))
    all_goals have p1 := r1.ext y2
    all_goals have o1 := v1.size
    all_goals have o2 := y2.size
    all_goals first
      | (with_reducible refine Lib.hid ?_; (repeat (with_reducible first | exact Arr.alloc _ _ _ | exact Arr.alloc2 _ _ _ _ | (refine Arr.alloc_at _ _ () ?_; simp; done) | exact RB | exact RC | exact RB.set3 _ _ _ | exact RC.set3 _ _ _ | (refine (RB.other3 _ _ _ ?_).set3 _ _ _; omega) | (refine (RC.other3 _ _ _ ?_).set3 _ _ _; omega) | (refine Arr.other3 ?_ _ _ _ ?_; rotate_left; (· omega)) | refine Arr.alloc' ?_ _)); done)
      | ((repeat (with_reducible first | exact p1 | refine Raw.alloc' ?_ _ | (refine Raw.setCell ?_ _ _ (f1.ne ?_); rotate_left; (· first | (simp; done) | (simp only; omega) | (simp; omega))) | (refine Raw.setNew r1 ?_ _ _ ?_; rotate_left; (· first | (simp; done) | (simp only; omega) | (simp; omega))))); done)
      | ((repeat (with_reducible first | exact r2 | refine Raw.alloc' ?_ _ | (refine Raw.setCell ?_ _ _ (f2.ne ?_); rotate_left; (· first | (simp; done) | (simp only; omega) | (simp; omega))))); done)
      | ((repeat (with_reducible first | exact v2 | refine Ext.alloc ?_ _ | (refine Ext.setCell ?_ ?_ _; rotate_left; (· first | (simp; done) | (simp only; omega) | (simp; omega))))); done)
      | omega
  case rest =>
    obtain ⟨g5, g6, a1, b1, a2, b2, c1, d1, c2, d2, rfl, rfl, s5, s6, G5, G6, r1, r2, hx⟩ := hcut
    have n5 : w.heap.size + 3 ≤ g5 := by have := Z0.out; omega
    have n6 : w.heap.size + 3 ≤ g6 := by have := Z0.out; omega
    clear k0_0 k0_1 k0_2 k1_0 k1_1 k1_2 z0 z1
    obtain ⟨k0_0, k0_1, k0_2, f0_0, f0_1, f0_2⟩ := box3 A0 hx
    have z0 := (A0.ext hx).lt
    obtain ⟨k1_0, k1_1, k1_2, f1_0, f1_1, f1_2⟩ := box3 A1 hx
    have z1 := (A1.ext hx).lt
    obtain ⟨k2_0, k2_1, k2_2, f2_0, f2_1, f2_2⟩ := box3 A2 hx
    have z2 := (A2.ext hx).lt
    obtain ⟨m0, m1, m2, -, -, -⟩ := box3 G5.out (Ext.refl _)
    obtain ⟨l0, l1, l2, -, -, -⟩ := box3 G6.out (Ext.refl _)
    have tk3 : True := trivial
    have tk4 : True := trivial
    have tk5 : True := trivial
    have tk6 : True := trivial
    have tk8 : True := trivial
    go_wp2_with fail
    go_region_held3 (fun w' => w'.cell? ⟨w.heap.size, 0, none⟩ = some (.bool s) ∧ w'.cell? ⟨w.heap.size, 1, none⟩ = some (.slice a k c) ∧ w'.cell? ⟨w.heap.size, 2, none⟩ = some (.slice b j d) ∧ w'.cell? ⟨w.heap.size + 1, 0, none⟩ = some (.bool s') ∧ w'.cell? ⟨w.heap.size + 1, 1, none⟩ = some (.slice a' k' c') ∧ w'.cell? ⟨w.heap.size + 1, 2, none⟩ = some (.slice b' j' d') ∧ w'.cell? ⟨g5, 0, none⟩ = some (.bool sP) ∧ w'.cell? ⟨g5, 1, none⟩ = some (.slice a1 (len nP) c1) ∧ w'.cell? ⟨g6, 0, none⟩ = some (.bool sQ) ∧ w'.cell? ⟨g6, 1, none⟩ = some (.slice a2 (len nQ) c2)) (first | with_reducible exact ⟨k0_0, k0_1, k0_2, k1_0, k1_1, k1_2, m0, m1, l0, l1⟩ | (refine ⟨?_, ?_, ?_, ?_, ?_, ?_, ?_, ?_, ?_, ?_⟩ <;> (repeat (with_reducible first | exact k0_0 | exact k0_1 | exact k0_2 | exact k1_0 | exact k1_1 | exact k1_2 | exact m0 | exact m1 | exact l0 | exact l1 | refine cell_drew' ?_ | (refine cell_set3 ?_ ?_; rotate_left; (· simp only; omega)))))) (first
      | (go_at_call 78; have _t := tk3; refine (HD'.out _ (x0.trans hx.drew)).mono ?_; rintro e w3 ⟨a3, c3, rfl, r3, f3, x3⟩; clear tk3 _t; obtain ⟨k0_0, k0_1, k0_2, f0_0, f0_1, f0_2⟩ := box3 A0 (hx.drew.trans x3); have z0 := (A0.ext (hx.drew.trans x3)).lt; obtain ⟨k1_0, k1_1, k1_2, f1_0, f1_1, f1_2⟩ := box3 A1 (hx.drew.trans x3); have z1 := (A1.ext (hx.drew.trans x3)).lt; obtain ⟨k2_0, k2_1, k2_2, f2_0, f2_1, f2_2⟩ := box3 A2 (hx.drew.trans x3); have z2 := (A2.ext (hx.drew.trans x3)).lt; obtain ⟨m0, m1, m2, -, -, -⟩ := box3 G5.out (((Ext.refl _).drew).trans x3); obtain ⟨l0, l1, l2, -, -, -⟩ := box3 G6.out (((Ext.refl _).drew).trans x3))
      | (go_at_call 77; have _t := tk4; refine (HX.out _ _ _ _ _ (r1.ext (((Ext.refl _).drew).trans x3)) r3).mono ?_; rintro e w4 ⟨a4, c4, rfl, r4, f4, x4⟩; clear tk4 _t; obtain ⟨k0_0, k0_1, k0_2, f0_0, f0_1, f0_2⟩ := box3 A0 ((hx.drew.trans x3).trans x4); have z0 := (A0.ext ((hx.drew.trans x3).trans x4)).lt; obtain ⟨k1_0, k1_1, k1_2, f1_0, f1_1, f1_2⟩ := box3 A1 ((hx.drew.trans x3).trans x4); have z1 := (A1.ext ((hx.drew.trans x3).trans x4)).lt; obtain ⟨k2_0, k2_1, k2_2, f2_0, f2_1, f2_2⟩ := box3 A2 ((hx.drew.trans x3).trans x4); have z2 := (A2.ext ((hx.drew.trans x3).trans x4)).lt; obtain ⟨m0, m1, m2, -, -, -⟩ := box3 G5.out ((((Ext.refl _).drew).trans x3).trans x4); obtain ⟨l0, l1, l2, -, -, -⟩ := box3 G6.out ((((Ext.refl _).drew).trans x3).trans x4))
      | (go_at_call 78; have _t := tk5; refine (HD.out _ (x0.trans ((hx.drew.trans x3).trans x4))).mono ?_; rintro e w5 ⟨a5, c5, rfl, r5, f5, x5⟩; clear tk5 _t; obtain ⟨k0_0, k0_1, k0_2, f0_0, f0_1, f0_2⟩ := box3 A0 (((hx.drew.trans x3).trans x4).trans x5); have z0 := (A0.ext (((hx.drew.trans x3).trans x4).trans x5)).lt; obtain ⟨k1_0, k1_1, k1_2, f1_0, f1_1, f1_2⟩ := box3 A1 (((hx.drew.trans x3).trans x4).trans x5); have z1 := (A1.ext (((hx.drew.trans x3).trans x4).trans x5)).lt; obtain ⟨k2_0, k2_1, k2_2, f2_0, f2_1, f2_2⟩ := box3 A2 (((hx.drew.trans x3).trans x4).trans x5); have z2 := (A2.ext (((hx.drew.trans x3).trans x4).trans x5)).lt; obtain ⟨m0, m1, m2, -, -, -⟩ := box3 G5.out (((((Ext.refl _).drew).trans x3).trans x4).trans x5); obtain ⟨l0, l1, l2, -, -, -⟩ := box3 G6.out (((((Ext.refl _).drew).trans x3).trans x4).trans x5))
      | (go_at_call 77; have _t := tk6; refine (HY.out _ _ _ _ _ (r2.ext (((((Ext.refl _).drew).trans x3).trans x4).trans x5)) r5).mono ?_; rintro e w6 ⟨a6, c6, rfl, r6, f6, x6⟩; clear tk6 _t; obtain ⟨k0_0, k0_1, k0_2, f0_0, f0_1, f0_2⟩ := box3 A0 ((((hx.drew.trans x3).trans x4).trans x5).trans x6); have z0 := (A0.ext ((((hx.drew.trans x3).trans x4).trans x5).trans x6)).lt; obtain ⟨k1_0, k1_1, k1_2, f1_0, f1_1, f1_2⟩ := box3 A1 ((((hx.drew.trans x3).trans x4).trans x5).trans x6); have z1 := (A1.ext ((((hx.drew.trans x3).trans x4).trans x5).trans x6)).lt; obtain ⟨k2_0, k2_1, k2_2, f2_0, f2_1, f2_2⟩ := box3 A2 ((((hx.drew.trans x3).trans x4).trans x5).trans x6); have z2 := (A2.ext ((((hx.drew.trans x3).trans x4).trans x5).trans x6)).lt; obtain ⟨m0, m1, m2, -, -, -⟩ := box3 G5.out ((((((Ext.refl _).drew).trans x3).trans x4).trans x5).trans x6); obtain ⟨l0, l1, l2, -, -, -⟩ := box3 G6.out ((((((Ext.refl _).drew).trans x3).trans x4).trans x5).trans x6))
      | (go_at_call 76; refine (HA.out _ _ _ _ _ ((r4.ext x5).ext x6) r6).mono ?_; rintro e w7 ⟨a7, c7, rfl, r7, f7, x7⟩; obtain ⟨k0_0, k0_1, k0_2, f0_0, f0_1, f0_2⟩ := box3 A0 (((((hx.drew.trans x3).trans x4).trans x5).trans x6).trans x7); have z0 := (A0.ext (((((hx.drew.trans x3).trans x4).trans x5).trans x6).trans x7)).lt; obtain ⟨k1_0, k1_1, k1_2, f1_0, f1_1, f1_2⟩ := box3 A1 (((((hx.drew.trans x3).trans x4).trans x5).trans x6).trans x7); have z1 := (A1.ext (((((hx.drew.trans x3).trans x4).trans x5).trans x6).trans x7)).lt; obtain ⟨k2_0, k2_1, k2_2, f2_0, f2_1, f2_2⟩ := box3 A2 (((((hx.drew.trans x3).trans x4).trans x5).trans x6).trans x7); have z2 := (A2.ext (((((hx.drew.trans x3).trans x4).trans x5).trans x6).trans x7)).lt; obtain ⟨m0, m1, m2, -, -, -⟩ := box3 G5.out (((((((Ext.refl _).drew).trans x3).trans x4).trans x5).trans x6).trans x7); obtain ⟨l0, l1, l2, -, -, -⟩ := box3 G6.out (((((((Ext.refl _).drew).trans x3).trans x4).trans x5).trans x6).trans x7))
      | (go_at_call 78; have _t := tk8; refine (HD.out _ (x0.trans (((((hx.drew.trans x3).trans x4).trans x5).trans x6).trans x7))).mono ?_; rintro e w8 ⟨a8, c8, rfl, r8, f8, x8⟩; clear tk8 _t; obtain ⟨k0_0, k0_1, k0_2, f0_0, f0_1, f0_2⟩ := box3 A0 ((((((hx.drew.trans x3).trans x4).trans x5).trans x6).trans x7).trans x8); have z0 := (A0.ext ((((((hx.drew.trans x3).trans x4).trans x5).trans x6).trans x7).trans x8)).lt; obtain ⟨k1_0, k1_1, k1_2, f1_0, f1_1, f1_2⟩ := box3 A1 ((((((hx.drew.trans x3).trans x4).trans x5).trans x6).trans x7).trans x8); have z1 := (A1.ext ((((((hx.drew.trans x3).trans x4).trans x5).trans x6).trans x7).trans x8)).lt; obtain ⟨k2_0, k2_1, k2_2, f2_0, f2_1, f2_2⟩ := box3 A2 ((((((hx.drew.trans x3).trans x4).trans x5).trans x6).trans x7).trans x8); have z2 := (A2.ext ((((((hx.drew.trans x3).trans x4).trans x5).trans x6).trans x7).trans x8)).lt; obtain ⟨m0, m1, m2, -, -, -⟩ := box3 G5.out ((((((((Ext.refl _).drew).trans x3).trans x4).trans x5).trans x6).trans x7).trans x8); obtain ⟨l0, l1, l2, -, -, -⟩ := box3 G6.out ((((((((Ext.refl _).drew).trans x3).trans x4).trans x5).trans x6).trans x7).trans x8))
      | (go_at_call 78; refine (HD'.out _ (x0.trans ((((((hx.drew.trans x3).trans x4).trans x5).trans x6).trans x7).trans x8))).mono ?_; rintro e w9 ⟨a9, c9, rfl, r9, f9, x9⟩; obtain ⟨k0_0, k0_1, k0_2, f0_0, f0_1, f0_2⟩ := box3 A0 (((((((hx.drew.trans x3).trans x4).trans x5).trans x6).trans x7).trans x8).trans x9); have z0 := (A0.ext (((((((hx.drew.trans x3).trans x4).trans x5).trans x6).trans x7).trans x8).trans x9)).lt; obtain ⟨k1_0, k1_1, k1_2, f1_0, f1_1, f1_2⟩ := box3 A1 (((((((hx.drew.trans x3).trans x4).trans x5).trans x6).trans x7).trans x8).trans x9); have z1 := (A1.ext (((((((hx.drew.trans x3).trans x4).trans x5).trans x6).trans x7).trans x8).trans x9)).lt; obtain ⟨k2_0, k2_1, k2_2, f2_0, f2_1, f2_2⟩ := box3 A2 (((((((hx.drew.trans x3).trans x4).trans x5).trans x6).trans x7).trans x8).trans x9); have z2 := (A2.ext (((((((hx.drew.trans x3).trans x4).trans x5).trans x6).trans x7).trans x8).trans x9)).lt; obtain ⟨m0, m1, m2, -, -, -⟩ := box3 G5.out (((((((((Ext.refl _).drew).trans x3).trans x4).trans x5).trans x6).trans x7).trans x8).trans x9); obtain ⟨l0, l1, l2, -, -, -⟩ := box3 G6.out (((((((((Ext.refl _).drew).trans x3).trans x4).trans x5).trans x6).trans x7).trans x8).trans x9))
      | (go_at_call 77; refine (HZ.out _ _ _ _ _ (r8.ext x9) r9).mono ?_; rintro e w10 ⟨a10, c10, rfl, r10, f10, x10⟩; obtain ⟨k0_0, k0_1, k0_2, f0_0, f0_1, f0_2⟩ := box3 A0 ((((((((hx.drew.trans x3).trans x4).trans x5).trans x6).trans x7).trans x8).trans x9).trans x10); have z0 := (A0.ext ((((((((hx.drew.trans x3).trans x4).trans x5).trans x6).trans x7).trans x8).trans x9).trans x10)).lt; obtain ⟨k1_0, k1_1, k1_2, f1_0, f1_1, f1_2⟩ := box3 A1 ((((((((hx.drew.trans x3).trans x4).trans x5).trans x6).trans x7).trans x8).trans x9).trans x10); have z1 := (A1.ext ((((((((hx.drew.trans x3).trans x4).trans x5).trans x6).trans x7).trans x8).trans x9).trans x10)).lt; obtain ⟨k2_0, k2_1, k2_2, f2_0, f2_1, f2_2⟩ := box3 A2 ((((((((hx.drew.trans x3).trans x4).trans x5).trans x6).trans x7).trans x8).trans x9).trans x10); have z2 := (A2.ext ((((((((hx.drew.trans x3).trans x4).trans x5).trans x6).trans x7).trans x8).trans x9).trans x10)).lt; obtain ⟨m0, m1, m2, -, -, -⟩ := box3 G5.out ((((((((((Ext.refl _).drew).trans x3).trans x4).trans x5).trans x6).trans x7).trans x8).trans x9).trans x10); obtain ⟨l0, l1, l2, -, -, -⟩ := box3 G6.out ((((((((((Ext.refl _).drew).trans x3).trans x4).trans x5).trans x6).trans x7).trans x8).trans x9).trans x10))
      | (go_at_call 75; refine (HM.out _ _ _ _ _ (((r7.ext x8).ext x9).ext x10) r10).mono ?_; intro e w11 hfin; obtain ⟨a11, c11, b11, d11, rfl, r11, f11, q11, g11, x11⟩ := id hfin; obtain ⟨k0_0, k0_1, k0_2, f0_0, f0_1, f0_2⟩ := box3 A0 (((((((((hx.drew.trans x3).trans x4).trans x5).trans x6).trans x7).trans x8).trans x9).trans x10).trans x11); have z0 := (A0.ext (((((((((hx.drew.trans x3).trans x4).trans x5).trans x6).trans x7).trans x8).trans x9).trans x10).trans x11)).lt; obtain ⟨k1_0, k1_1, k1_2, f1_0, f1_1, f1_2⟩ := box3 A1 (((((((((hx.drew.trans x3).trans x4).trans x5).trans x6).trans x7).trans x8).trans x9).trans x10).trans x11); have z1 := (A1.ext (((((((((hx.drew.trans x3).trans x4).trans x5).trans x6).trans x7).trans x8).trans x9).trans x10).trans x11)).lt; obtain ⟨k2_0, k2_1, k2_2, f2_0, f2_1, f2_2⟩ := box3 A2 (((((((((hx.drew.trans x3).trans x4).trans x5).trans x6).trans x7).trans x8).trans x9).trans x10).trans x11); have z2 := (A2.ext (((((((((hx.drew.trans x3).trans x4).trans x5).trans x6).trans x7).trans x8).trans x9).trans x10).trans x11)).lt; obtain ⟨m0, m1, m2, -, -, -⟩ := box3 G5.out (((((((((((Ext.refl _).drew).trans x3).trans x4).trans x5).trans x6).trans x7).trans x8).trans x9).trans x10).trans x11); obtain ⟨l0, l1, l2, -, -, -⟩ := box3 G6.out (((((((((((Ext.refl _).drew).trans x3).trans x4).trans x5).trans x6).trans x7).trans x8).trans x9).trans x10).trans x11)))
    go_wp2_with fail
    exact bodyPost_ret (by simp [results, Tryz.results30, go_sem, k2_0, k2_1, k2_2]) rfl (RatOf.touch' (hfin.base (((((((x3.trans x4).trans x5).trans x6).trans x7).trans x8).trans x9).trans x10)) x0 hx.drew (Touch.three _ (by omega) (by rw [Z0.out]; omega) _ _ _))

end Go.Proofs.YtgihpfkjpfanmaaGreat


namespace Go.Proofs.YtgihpfkjpfanmaaGreat
open Go.RowKit

theorem mk_ratOf (V : World) (s1 t : Bool) (n1 n2 : Nat) (R : Rat) (hR : mkRat (sgn (s1 != t) n1) n2 = R) (b1 : len n1 < 900000000) (b2 : len n2 < 900000000) (a : Option Addr) (c : Nat) (b : Option Addr) (d : Nat) (h : Raw V a (len n1) c n1) (h' : Raw V b (len n2) d n2) :
    Calls Tryz.prog 75 #[.agg #[.bool s1, .slice a (len n1) c], .agg #[.bool t, .slice b (len n2) d]] V (RatOf (decide (R.num < 0)) R.num.natAbs R.den V) := by
  have := r3_Make V s1 t a b _ c _ d n1 n2 h h' b1 b2
  rw [hR] at this
  exact this
theorem mul_intOf (V : World) (s1 t : Bool) (n1 n2 : Nat) (z : Int) (hz : sgn s1 n1 * sgn t n2 = z) (b1 : len n1 < 1000000000) (b2 : len n2 < 1000000000) (a : Option Addr) (c : Nat) (b : Option Addr) (d : Nat) (h : Raw V a (len n1) c n1) (h' : Raw V b (len n2) d n2) :
    Calls Tryz.prog 77 #[.agg #[.bool s1, .slice a (len n1) c], .agg #[.bool t, .slice b (len n2) d]] V (IntOf (decide (z < 0)) z.natAbs V) := by
  have := r2_Mul V s1 t a b _ c _ d n1 n2 h h' b1 b2
  rw [hz] at this
  exact this
theorem add_intOf (V : World) (s1 t : Bool) (n1 n2 : Nat) (z : Int) (hz : sgn s1 n1 + sgn t n2 = z) (b1 : len n1 < 1000000000) (b2 : len n2 < 1000000000) (a : Option Addr) (c : Nat) (b : Option Addr) (d : Nat) (h : Raw V a (len n1) c n1) (h' : Raw V b (len n2) d n2) :
    Calls Tryz.prog 76 #[.agg #[.bool s1, .slice a (len n1) c], .agg #[.bool t, .slice b (len n2) d]] V (IntOf (decide (z < 0)) z.natAbs V) := by
  have := r2_Add V s1 t a b _ c _ d n1 n2 h h' b1 b2
  rw [hz] at this
  exact this

theorem rat_lens (s : Bool) (n m : Nat) {k j : Nat} (h1 : len n ≤ k) (h2 : len m ≤ j) (b1 : k < 200000000) (b2 : j < 200000000) : len (mkRat (sgn s n) m).num.natAbs < 200000000 ∧ len (mkRat (sgn s n) m).den < 200000000 := by
  have h := rsz_mkRat (sgn s n) m
  rw [sgn_natAbs] at h
  have h3 := rsz_num (mkRat (sgn s n) m)
  have h4 := rsz_den (mkRat (sgn s n) m)
  omega

/-- ref03.Neg. -/
theorem r3_Neg (w : World) (s : Bool) (a b : Option Addr) (k c j d n m : Nat) (h : Raw w a k c n) (g : Raw w b j d m) (b1 : k < 200000000) (b2 : j < 200000000) : Calls Tryz.prog 37 #[.agg #[.bool s, .slice a k c, .slice b j d]] w (NewRat (-(mkRat (sgn s n) m)) w) := by
  obtain ⟨l1, l2⟩ := rat_lens s n m h.len_le g.len_le b1 b2
  have hN := fun V (hV : Ext w V) => (r3_Norm V s a b k c j d n m (h.ext hV) (g.ext hV) b1 b2).mono (fun _ _ hh => hh.ratOf)
  have hD := fun V (hV : Ext w V) => r3_den V s a b k c j d n m (h.ext hV) (g.ext hV) b1 b2
  generalize mkRat (sgn s n) m = P at *
  refine (r3_Neg_walk w s a b k c j d _ (decide (-P.num < 0)) _ _ _ (-P.num).natAbs _ _ hN hD ?_ (fun V a c b d h1 h2 => mk_ratOf V _ _ _ _ (-P) ?_ ?_ ?_ a c b d h1 h2)).mono (fun _ _ hh => hh.newRat)
  · intro V a c hR
    have := r2_Neg V (decide (P.num < 0)) a _ c _ hR
    rw [sgn_dec] at this
    exact this
  · rw [Bool.bne_false, sgn_dec, ← Rat.neg_mkRat, Rat.mkRat_self]
  · rw [Int.natAbs_neg]; omega
  · omega

theorem len_prod {x y : Nat} (h1 : len x < 200000000) (h2 : len y < 200000000) : len (x * y) < 400000000 := by
  have := len_mul x y; omega

/-- ref03.Mul. -/
theorem r3_Mul (w : World) (s : Bool) (a b : Option Addr) (k c j d n m : Nat) (h : Raw w a k c n) (g : Raw w b j d m) (s' : Bool) (a' b' : Option Addr) (k' c' j' d' n' m' : Nat) (h' : Raw w a' k' c' n') (g' : Raw w b' j' d' m') (b1 : k < 200000000) (b2 : j < 200000000) (b1' : k' < 200000000) (b2' : j' < 200000000) : Calls Tryz.prog 31 #[.agg #[.bool s, .slice a k c, .slice b j d], .agg #[.bool s', .slice a' k' c', .slice b' j' d']] w (NewRat (mkRat (sgn s n) m * mkRat (sgn s' n') m') w) := by
  obtain ⟨l1, l2⟩ := rat_lens s n m h.len_le g.len_le b1 b2
  obtain ⟨l3, l4⟩ := rat_lens s' n' m' h'.len_le g'.len_le b1' b2'
  have hN := fun V (hV : Ext w V) => (r3_Norm V s a b k c j d n m (h.ext hV) (g.ext hV) b1 b2).mono (fun _ _ hh => hh.ratOf)
  have hD := fun V (hV : Ext w V) => r3_den V s a b k c j d n m (h.ext hV) (g.ext hV) b1 b2
  have hN' := fun V (hV : Ext w V) => (r3_Norm V s' a' b' k' c' j' d' n' m' (h'.ext hV) (g'.ext hV) b1' b2').mono (fun _ _ hh => hh.ratOf)
  have hD' := fun V (hV : Ext w V) => r3_den V s' a' b' k' c' j' d' n' m' (h'.ext hV) (g'.ext hV) b1' b2'
  generalize mkRat (sgn s n) m = P at *
  generalize mkRat (sgn s' n') m' = Q at *
  have e2 : decide ((P.den : Int) * (Q.den : Int) < 0) = false := decide_eq_false (by rw [← Int.natCast_mul]; omega)
  have e3 : ((P.den : Int) * (Q.den : Int)).natAbs = P.den * Q.den := by rw [← Int.natCast_mul, Int.natAbs_natCast]
  refine (r3_Mul_walk w s a b k c j d s' a' b' k' c' j' d' _ _ _ _ _ _ _ _ _ _ _ _ _ hN hN' hD hD' (fun V a c b d h1 h2 => mul_intOf V _ _ _ _ (P.num * Q.num) ?_ ?_ ?_ a c b d h1 h2) (fun V a c b d h1 h2 => mul_intOf V _ _ _ _ ((P.den : Int) * (Q.den : Int)) ?_ ?_ ?_ a c b d h1 h2) (fun V a c b d h1 h2 => mk_ratOf V _ _ _ _ (P * Q) ?_ ?_ ?_ a c b d h1 h2)).mono (fun _ _ hh => hh.newRat)
  · rw [sgn_dec, sgn_dec]
  · omega
  · omega
  · rw [sgn_false, sgn_false]
  · omega
  · omega
  · rw [e2, Bool.bne_false, sgn_dec, e3, Rat.mul_def']
  · rw [Int.natAbs_mul]; have := len_prod l1 l3; omega
  · rw [e3]; have := len_prod l2 l4; omega

/-- ref03.Add. -/
theorem r3_Add (w : World) (s : Bool) (a b : Option Addr) (k c j d n m : Nat) (h : Raw w a k c n) (g : Raw w b j d m) (s' : Bool) (a' b' : Option Addr) (k' c' j' d' n' m' : Nat) (h' : Raw w a' k' c' n') (g' : Raw w b' j' d' m') (b1 : k < 200000000) (b2 : j < 200000000) (b1' : k' < 200000000) (b2' : j' < 200000000) : Calls Tryz.prog 30 #[.agg #[.bool s, .slice a k c, .slice b j d], .agg #[.bool s', .slice a' k' c', .slice b' j' d']] w (NewRat (mkRat (sgn s n) m + mkRat (sgn s' n') m') w) := by
  obtain ⟨l1, l2⟩ := rat_lens s n m h.len_le g.len_le b1 b2
  obtain ⟨l3, l4⟩ := rat_lens s' n' m' h'.len_le g'.len_le b1' b2'
  have hN := fun V (hV : Ext w V) => (r3_Norm V s a b k c j d n m (h.ext hV) (g.ext hV) b1 b2).mono (fun _ _ hh => hh.ratOf)
  have hD := fun V (hV : Ext w V) => r3_den V s a b k c j d n m (h.ext hV) (g.ext hV) b1 b2
  have hN' := fun V (hV : Ext w V) => (r3_Norm V s' a' b' k' c' j' d' n' m' (h'.ext hV) (g'.ext hV) b1' b2').mono (fun _ _ hh => hh.ratOf)
  have hD' := fun V (hV : Ext w V) => r3_den V s' a' b' k' c' j' d' n' m' (h'.ext hV) (g'.ext hV) b1' b2'
  generalize mkRat (sgn s n) m = P at *
  generalize mkRat (sgn s' n') m' = Q at *
  have e2 : decide ((P.den : Int) * (Q.den : Int) < 0) = false := decide_eq_false (by rw [← Int.natCast_mul]; omega)
  have e3 : ((P.den : Int) * (Q.den : Int)).natAbs = P.den * Q.den := by rw [← Int.natCast_mul, Int.natAbs_natCast]
  have f1 : len (P.num * (Q.den : Int)).natAbs < 400000000 := by rw [Int.natAbs_mul, Int.natAbs_natCast]; exact len_prod l1 l4
  have f2 : len (Q.num * (P.den : Int)).natAbs < 400000000 := by rw [Int.natAbs_mul, Int.natAbs_natCast]; exact len_prod l3 l2
  refine (r3_Add_walk w s a b k c j d s' a' b' k' c' j' d' _ _ _ _ _ _ _ _ _ _ _ _ _ _ _ _ _ hN hN' hD hD' (fun V a c b d h1 h2 => mul_intOf V _ _ _ _ (P.num * (Q.den : Int)) ?_ ?_ ?_ a c b d h1 h2) (fun V a c b d h1 h2 => mul_intOf V _ _ _ _ (Q.num * (P.den : Int)) ?_ ?_ ?_ a c b d h1 h2) (fun V a c b d h1 h2 => add_intOf V _ _ _ _ (P.num * (Q.den : Int) + Q.num * (P.den : Int)) ?_ ?_ ?_ a c b d h1 h2) (fun V a c b d h1 h2 => mul_intOf V _ _ _ _ ((P.den : Int) * (Q.den : Int)) ?_ ?_ ?_ a c b d h1 h2) (fun V a c b d h1 h2 => mk_ratOf V _ _ _ _ (P + Q) ?_ ?_ ?_ a c b d h1 h2)).mono (fun _ _ hh => hh.newRat)
  · rw [sgn_dec, sgn_false]
  · omega
  · omega
  · rw [sgn_dec, sgn_false]
  · omega
  · omega
  · rw [sgn_dec, sgn_dec]
  · omega
  · omega
  · rw [sgn_false, sgn_false]
  · omega
  · omega
  · rw [e2, Bool.bne_false, sgn_dec, e3, Rat.add_def']
  · have := len_intAdd (P.num * (Q.den : Int)) (Q.num * (P.den : Int)); omega
  · rw [e3]; have := len_prod l2 l4; omega

end Go.Proofs.YtgihpfkjpfanmaaGreat


namespace Go.Proofs.YtgihpfkjpfanmaaGreat
open Go.RowKit

set_option maxHeartbeats 2000000 in
set_option maxRecDepth 100000 in
/-- ref03.Sub, over its callees. -/
theorem r3_Sub_walk (w : World) (s : Bool) (a b : Option Addr) (k c j d : Nat) (s' : Bool) (a' b' : Option Addr) (k' c' j' d' : Nat) (s1 sR : Bool) (n1 m1 nR dR : Nat) (hN : ∀ V, Ext w V → Calls Tryz.prog 37 #[.agg #[.bool s', .slice a' k' c', .slice b' j' d']] V (RatOf s1 n1 m1 V)) (hA : ∀ V a1 c1 b1 d1, Ext w V → Raw V a1 (len n1) c1 n1 → Raw V b1 (len m1) d1 m1 → Calls Tryz.prog 30 #[.agg #[.bool s, .slice a k c, .slice b j d], .agg #[.bool s1, .slice a1 (len n1) c1, .slice b1 (len m1) d1]] V (RatOf sR nR dR V)) :
    Calls Tryz.prog 42 #[.agg #[.bool s, .slice a k c, .slice b j d], .agg #[.bool s', .slice a' k' c', .slice b' j' d']] w (RatOf sR nR dR w) := by
  have HN := Lib.hid hN; have HA := Lib.hid hA; clear hN hA
  have fd0 := Tryz.rat_num
  have fd1 := Tryz.rat_den
  go_enter Tryz.func42, Tryz.ntmps42
  go_wp2_with fail
  obtain ⟨W, hW, x0, Z0, A0, A1, A2⟩ := boxes3 w 55 [.bool s, .slice a k c, .slice b j d] 55 [.bool s', .slice a' k' c', .slice b' j' d'] 55 [.bool false, .slice none 0 0, .slice none 0 0]
  rw [← hW]
  clear hW
  obtain ⟨k0_0, k0_1, k0_2, f0_0, f0_1, f0_2⟩ := box3 A0 (Ext.refl _)
  have z0 := (A0.ext (Ext.refl _)).lt
  obtain ⟨k1_0, k1_1, k1_2, f1_0, f1_1, f1_2⟩ := box3 A1 (Ext.refl _)
  have z1 := (A1.ext (Ext.refl _)).lt
  obtain ⟨k2_0, k2_1, k2_2, f2_0, f2_1, f2_2⟩ := box3 A2 (Ext.refl _)
  have z2 := (A2.ext (Ext.refl _)).lt
  go_region_held3 (fun w' => w'.cell? ⟨w.heap.size, 0, none⟩ = some (.bool s) ∧ w'.cell? ⟨w.heap.size, 1, none⟩ = some (.slice a k c) ∧ w'.cell? ⟨w.heap.size, 2, none⟩ = some (.slice b j d) ∧ w'.cell? ⟨w.heap.size + 1, 0, none⟩ = some (.bool s') ∧ w'.cell? ⟨w.heap.size + 1, 1, none⟩ = some (.slice a' k' c') ∧ w'.cell? ⟨w.heap.size + 1, 2, none⟩ = some (.slice b' j' d')) (first | exact ⟨k0_0, k0_1, k0_2, k1_0, k1_1, k1_2⟩ | (simp [go_sem, k0_0, k0_1, k0_2, k1_0, k1_1, k1_2])) (first
    | (go_at_call 37; refine (HN.out _ (by exact x0.trans ((Ext.refl _).drew))).mono ?_; rintro e w1 ⟨a1, c1, b1, d1, rfl, r1, f1, q1, g1, x1⟩; obtain ⟨k0_0, k0_1, k0_2, f0_0, f0_1, f0_2⟩ := box3 A0 (((Ext.refl _).drew).trans x1); have z0 := (A0.ext (((Ext.refl _).drew).trans x1)).lt; obtain ⟨k1_0, k1_1, k1_2, f1_0, f1_1, f1_2⟩ := box3 A1 (((Ext.refl _).drew).trans x1); have z1 := (A1.ext (((Ext.refl _).drew).trans x1)).lt; obtain ⟨k2_0, k2_1, k2_2, f2_0, f2_1, f2_2⟩ := box3 A2 (((Ext.refl _).drew).trans x1); have z2 := (A2.ext (((Ext.refl _).drew).trans x1)).lt)
    | (go_at_call 30; refine (HA.out _ _ _ _ _ (by exact x0.trans (((Ext.refl _).drew).trans x1)) r1 q1).mono ?_; intro e w2 hfin; obtain ⟨a2, c2, b2, d2, rfl, r2, f2, q2, g2, x2⟩ := id hfin; obtain ⟨k0_0, k0_1, k0_2, f0_0, f0_1, f0_2⟩ := box3 A0 ((((Ext.refl _).drew).trans x1).trans x2); have z0 := (A0.ext ((((Ext.refl _).drew).trans x1).trans x2)).lt; obtain ⟨k1_0, k1_1, k1_2, f1_0, f1_1, f1_2⟩ := box3 A1 ((((Ext.refl _).drew).trans x1).trans x2); have z1 := (A1.ext ((((Ext.refl _).drew).trans x1).trans x2)).lt; obtain ⟨k2_0, k2_1, k2_2, f2_0, f2_1, f2_2⟩ := box3 A2 ((((Ext.refl _).drew).trans x1).trans x2); have z2 := (A2.ext ((((Ext.refl _).drew).trans x1).trans x2)).lt))
  go_wp2_with fail
  exact bodyPost_ret (by simp [results, Tryz.results42, go_sem, k2_0, k2_1, k2_2]) rfl (RatOf.touch (hfin.base x1) x0.drew (Touch.three _ (by omega) (by rw [World.drew, Z0.out]; omega) _ _ _))

set_option maxHeartbeats 2000000 in
set_option maxRecDepth 100000 in
/-- ref03.Compare, over its callees. -/
theorem r3_Compare_walk (w : World) (s : Bool) (a b : Option Addr) (k c j d : Nat) (s' : Bool) (a' b' : Option Addr) (k' c' j' d' : Nat) (s1 : Bool) (n1 m1 : Nat) (z : Int) (hN : ∀ V, Ext w V → Calls Tryz.prog 42 #[.agg #[.bool s, .slice a k c, .slice b j d], .agg #[.bool s', .slice a' k' c', .slice b' j' d']] V (RatOf s1 n1 m1 V)) (hA : ∀ V a1 c1 b1 d1, Ext w V → Raw V a1 (len n1) c1 n1 → Raw V b1 (len m1) d1 m1 → Calls Tryz.prog 43 #[.agg #[.bool s1, .slice a1 (len n1) c1, .slice b1 (len m1) d1]] V fun e w' => e = .returned (.int .i64 z) ∧ Ext V w') :
    Calls Tryz.prog 28 #[.agg #[.bool s, .slice a k c, .slice b j d], .agg #[.bool s', .slice a' k' c', .slice b' j' d']] w (fun e w' => e = .returned (.int .i64 z) ∧ Ext w w') := by
  have HN := Lib.hid hN; have HA := Lib.hid hA; clear hN hA
  have fd0 := Tryz.rat_num
  have fd1 := Tryz.rat_den
  go_enter Tryz.func28, Tryz.ntmps28
  go_wp2_with fail
  obtain ⟨W, hW, x0, Z0, A0, A1⟩ := boxes2 w 55 [.bool s, .slice a k c, .slice b j d] 55 [.bool s', .slice a' k' c', .slice b' j' d']
  rw [← hW]
  clear hW
  obtain ⟨k0_0, k0_1, k0_2, f0_0, f0_1, f0_2⟩ := box3 A0 (Ext.refl _)
  have z0 := (A0.ext (Ext.refl _)).lt
  obtain ⟨k1_0, k1_1, k1_2, f1_0, f1_1, f1_2⟩ := box3 A1 (Ext.refl _)
  have z1 := (A1.ext (Ext.refl _)).lt
  refine (HN.out _ x0).mono ?_
  rintro e w1 ⟨a1, c1, b1, d1, rfl, r1, f1, q1, g1, x1⟩
  go_wp2_with fail
  refine (HA.out _ _ _ _ _ (x0.trans x1) r1 q1).mono ?_
  rintro e w2 ⟨rfl, x2⟩
  go_wp2_with fail
  go_ret
  exact ⟨rfl, (x0.trans x1).trans x2⟩

theorem sub_sign (p q : Rat) : (p - q).num.sign = cmpQ p q := by
  rcases cmpQ_cases p q with h | h | h
  · have h1 : p < q := cmpQ_lt.1 (by omega)
    have h2 : p - q < 0 := by
      rw [Rat.lt_iff_sub_pos] at h1 ⊢
      have e : 0 - (p - q) = q - p := by grind
      rw [e]; exact h1
    have h3 : (p - q).num < 0 := by
      apply Int.lt_of_not_ge
      intro h4
      exact absurd (Rat.num_nonneg.1 h4) (Rat.not_le.2 h2)
    rw [h, Int.sign_eq_neg_one_of_neg h3]
  · have h1 : p = q := cmpQ_eq.1 h
    rw [h, h1, Rat.sub_self]; rfl
  · have h1 : q < p := cmpQ_gt.1 (by omega)
    rw [Rat.lt_iff_sub_pos] at h1
    have h3 : 0 < (p - q).num := by
      have h4 : 0 ≤ (p - q).num := Rat.num_nonneg.2 (Rat.le_of_lt h1)
      have h5 : (p - q).num ≠ 0 := fun e => by
        rw [Rat.num_eq_zero.1 e] at h1; exact absurd h1 (Rat.lt_irrefl)
      omega
    rw [h, Int.sign_eq_one_of_pos h3]

/-- ref03.Sub. -/
theorem r3_Sub (w : World) (s : Bool) (a b : Option Addr) (k c j d n m : Nat) (h : Raw w a k c n) (g : Raw w b j d m) (s' : Bool) (a' b' : Option Addr) (k' c' j' d' n' m' : Nat) (h' : Raw w a' k' c' n') (g' : Raw w b' j' d' m') (b1 : k < 200000000) (b2 : j < 200000000) (b1' : k' < 200000000) (b2' : j' < 200000000) : Calls Tryz.prog 42 #[.agg #[.bool s, .slice a k c, .slice b j d], .agg #[.bool s', .slice a' k' c', .slice b' j' d']] w (NewRat (mkRat (sgn s n) m - mkRat (sgn s' n') m') w) := by
  obtain ⟨l3, l4⟩ := rat_lens s' n' m' h'.len_le g'.len_le b1' b2'
  have hN := fun V (hV : Ext w V) => (r3_Neg V s' a' b' k' c' j' d' n' m' (h'.ext hV) (g'.ext hV) b1' b2').mono (fun _ _ hh => hh.ratOf)
  generalize mkRat (sgn s' n') m' = Q at *
  refine (r3_Sub_walk w s a b k c j d s' a' b' k' c' j' d' _ _ _ _ _ _ hN ?_).mono (fun _ _ hh => hh.newRat)
  intro V a1 c1 b1' d1 hV hR hR'
  have := r3_Add V s a b k c j d n m (h.ext hV) (g.ext hV) (decide ((-Q).num < 0)) a1 b1' _ c1 _ d1 _ _ hR hR' b1 b2 (by rw [Rat.neg_num, Int.natAbs_neg]; omega) (by rw [Rat.neg_den]; omega)
  rw [sgn_dec, Rat.mkRat_self, ← Rat.sub_eq_add_neg] at this
  exact this

/-- ref03.Compare. -/
theorem r3_Compare (w : World) (s : Bool) (a b : Option Addr) (k c j d n m : Nat) (h : Raw w a k c n) (g : Raw w b j d m) (s' : Bool) (a' b' : Option Addr) (k' c' j' d' n' m' : Nat) (h' : Raw w a' k' c' n') (g' : Raw w b' j' d' m') (b1 : k < 60000000) (b2 : j < 60000000) (b1' : k' < 60000000) (b2' : j' < 60000000) : Calls Tryz.prog 28 #[.agg #[.bool s, .slice a k c, .slice b j d], .agg #[.bool s', .slice a' k' c', .slice b' j' d']] w fun e w' => e = .returned (.int .i64 (cmpQ (mkRat (sgn s n) m) (mkRat (sgn s' n') m'))) ∧ Ext w w' := by
  have hN := fun V (hV : Ext w V) => (r3_Sub V s a b k c j d n m (h.ext hV) (g.ext hV) s' a' b' k' c' j' d' n' m' (h'.ext hV) (g'.ext hV) (by omega) (by omega) (by omega) (by omega)).mono (fun _ _ hh => hh.ratOf)
  have hl : rsz (mkRat (sgn s n) m - mkRat (sgn s' n') m') < 150000000 := by
    have h1 := rsz_mkRat (sgn s n) m
    have h2 := rsz_mkRat (sgn s' n') m'
    rw [sgn_natAbs] at h1 h2
    have h3 := rsz_sub (mkRat (sgn s n) m) (mkRat (sgn s' n') m')
    have h4 := h.len_le
    have h5 := g.len_le
    have h6 := h'.len_le
    have h7 := g'.len_le
    omega
  rw [← sub_sign]
  generalize mkRat (sgn s n) m - mkRat (sgn s' n') m' = D at *
  have hl1 := rsz_num D
  have hl2 := rsz_den D
  refine r3_Compare_walk w s a b k c j d s' a' b' k' c' j' d' _ _ _ _ hN ?_
  intro V a1 c1 b1' d1 hV hR hR'
  have := r3_Sign V (decide (D.num < 0)) a1 b1' _ c1 _ d1 _ _ hR hR' (by omega) (by omega)
  rw [sgn_dec, Rat.mkRat_self] at this
  exact this

end Go.Proofs.YtgihpfkjpfanmaaGreat


namespace Go.Proofs.YtgihpfkjpfanmaaGreat
open Go.RowKit

/-- The first of two numbers that is not 0. -/
def orZ (x y : Int) : Int := if x = 0 then y else x

set_option maxHeartbeats 400000 in
/-- cmp.Or of two integers. -/
theorem cmp_or (w : World) (b : Nat) (x y : Int) (h : Arr w b 3 [.int .i64 x, .int .i64 y]) :
    Calls Tryz.prog 67 #[.slice (some ⟨b, 0, none⟩) 2 2] w fun e w' => e = .returned (.int .i64 (orZ x y)) ∧ Ext w w' := by
  have c0 := h.cell 0
  have c1 := h.cell 1
  simp at c0 c1
  by_cases hx : x = 0
  · subst hx
    by_cases hy : y = 0
    · subst hy
      go_enter Tryz.func67, Tryz.ntmps67
      go_wp2
      refine wp_loop_rounds 3 ?_; rw [rounds_succ]
      go_wp2
      rw [rounds_succ]
      go_wp2
      rw [rounds_succ]
      go_wp2
      go_ret
      exact ⟨rfl, Ext.refl _⟩
    · have hb : (y != 0) = true := by simpa using hy
      go_enter Tryz.func67, Tryz.ntmps67
      go_wp2
      refine wp_loop_rounds 3 ?_; rw [rounds_succ]
      go_wp2
      rw [rounds_succ]
      go_wp2
      go_ret
      exact ⟨rfl, Ext.refl _⟩
  · have hb : (x != 0) = true := by simpa using hx
    go_enter Tryz.func67, Tryz.ntmps67
    go_wp2
    refine wp_loop_rounds 3 ?_; rw [rounds_succ]
    go_wp2
    go_ret
    exact ⟨ret_int (by unfold orZ; rw [if_neg hx]), Ext.refl _⟩

theorem cell_al {w : World} {o : Obj} {p : Addr} {x : Value} (h : w.cell? p = some x) : (w.alloc o).cell? p = some x := cell_ext ((Ext.refl _).alloc _) h

/-- The comparison of two places: the greater part first, then the lesser place. -/
def apCmp (fs : List Rat) (x y : Nat) : Int := orZ (cmpQ (fs[y]?.getD 0) (fs[x]?.getD 0)) (cmpZ (x : Int) (y : Int))

end Go.Proofs.YtgihpfkjpfanmaaGreat


namespace Go.Proofs
open Go.Shelf
def Tryz.sortL_ren : Go.Shelf.Ren := ⟨fun | 6 => 65 | 15 => 129 | 14 => 128 | 28 => 203 | 29 => 204 | 20 => 195 | 21 => 196 | 22 => 197 | 23 => 198 | 24 => 199 | 25 => 200 | 26 => 201 | 27 => 202 | 46 => 223 | 47 => 224 | 48 => 225 | 49 => 226 | 50 => 227 | 57 => 234 | n => n, fun | 22 => 22 | 24 => 3 | 25 => 46 | 3 => 3 | 39 => 171 | 0 => 0 | 53 => 122 | 55 => 113 | 4 => 4 | 46 => 221 | 45 => 220 | 50 => 71 | 5 => 5 | 9 => 9 | 66 => 234 | 70 => 238 | 76 => 247 | 77 => 248 | n => n, fun | n => n⟩
theorem Tryz.sortL : Go.Proofs.SlLaysF.n6 Tryz.prog Tryz.sortL_ren := {
  mixed := by kernel_rfl,
  f6 := ⟨Tryz.f65.name, by decide, Tryz.func65.trans (congrArg some (by kernel_rfl))⟩,
  f14 := ⟨Tryz.f128.name, by decide, Tryz.func128.trans (congrArg some (by kernel_rfl))⟩,
  f15 := Tryz.func129.trans (congrArg some (by kernel_rfl)),
  f20 := ⟨Tryz.f195.name, by decide, Tryz.func195.trans (congrArg some (by kernel_rfl))⟩,
  f21 := ⟨Tryz.f196.name, by decide, Tryz.func196.trans (congrArg some (by kernel_rfl))⟩,
  f22 := ⟨Tryz.f197.name, by decide, Tryz.func197.trans (congrArg some (by kernel_rfl))⟩,
  f23 := ⟨Tryz.f198.name, by decide, Tryz.func198.trans (congrArg some (by kernel_rfl))⟩,
  f24 := ⟨Tryz.f199.name, by decide, Tryz.func199.trans (congrArg some (by kernel_rfl))⟩,
  f25 := ⟨Tryz.f200.name, by decide, Tryz.func200.trans (congrArg some (by kernel_rfl))⟩,
  f26 := ⟨Tryz.f201.name, by decide, Tryz.func201.trans (congrArg some (by kernel_rfl))⟩,
  f27 := ⟨Tryz.f202.name, by decide, Tryz.func202.trans (congrArg some (by kernel_rfl))⟩,
  f28 := Tryz.func203.trans (congrArg some (by kernel_rfl)),
  f29 := Tryz.func204.trans (congrArg some (by kernel_rfl)),
  f46 := ⟨Tryz.f223.name, by decide, Tryz.func223.trans (congrArg some (by kernel_rfl))⟩,
  f47 := Tryz.func224.trans (congrArg some (by kernel_rfl)),
  f48 := Tryz.func225.trans (congrArg some (by kernel_rfl)),
  f49 := ⟨Tryz.f226.name, by decide, Tryz.func226.trans (congrArg some (by kernel_rfl))⟩,
  f50 := ⟨Tryz.f227.name, by decide, Tryz.func227.trans (congrArg some (by kernel_rfl))⟩,
  f57 := ⟨Tryz.f234.name, by decide, Tryz.func234.trans (congrArg some (by kernel_rfl))⟩,
  t0 := Tryz.underlying0,
  a0 := Tryz.isAgg0,
  z0 := Tryz.sizeOf0,
  v0 := Tryz.zeroValue0,
  t3 := Tryz.underlying3,
  a3 := Tryz.isAgg3,
  z3 := Tryz.sizeOf3,
  v3 := Tryz.zeroValue3,
  t4 := Tryz.underlying4,
  a4 := Tryz.isAgg4,
  z4 := Tryz.sizeOf4,
  v4 := Tryz.zeroValue4,
  t5 := Tryz.underlying5,
  a5 := Tryz.isAgg5,
  z5 := Tryz.sizeOf5,
  v5 := Tryz.zeroValue5,
  t9 := Tryz.underlying9,
  a9 := Tryz.isAgg9,
  z9 := Tryz.sizeOf9,
  v9 := Tryz.zeroValue9,
  t22 := Tryz.underlying22,
  a22 := Tryz.isAgg22,
  z22 := Tryz.sizeOf22,
  v22 := Tryz.zeroValue22,
  a24 := Tryz.isAgg3,
  z24 := Tryz.sizeOf3,
  t25 := Tryz.underlying46,
  a25 := Tryz.isAgg46,
  z25 := Tryz.sizeOf46,
  v25 := Tryz.zeroValue46,
  t39 := Tryz.underlying171,
  a39 := Tryz.isAgg171,
  z39 := Tryz.sizeOf171,
  v39 := Tryz.zeroValue171,
  t45 := Tryz.underlying220,
  a45 := Tryz.isAgg220,
  z45 := Tryz.sizeOf220,
  v45 := Tryz.zeroValue220,
  t46 := Tryz.underlying221,
  a46 := Tryz.isAgg221,
  z46 := Tryz.sizeOf221,
  v46 := Tryz.zeroValue221,
  t50 := Tryz.underlying71,
  a50 := Tryz.isAgg71,
  z50 := Tryz.sizeOf71,
  v50 := Tryz.zeroValue71,
  t53 := Tryz.underlying122,
  a53 := Tryz.isAgg122,
  z53 := Tryz.sizeOf122,
  v53 := Tryz.zeroValue122,
  t55 := Tryz.underlying113,
  a55 := Tryz.isAgg113,
  z55 := Tryz.sizeOf113,
  v55 := Tryz.zeroValue113,
  t66 := Tryz.underlying234,
  a66 := Tryz.isAgg234,
  z66 := Tryz.sizeOf234,
  v66 := Tryz.zeroValue234,
  t70 := Tryz.underlying238,
  a70 := Tryz.isAgg238,
  z70 := Tryz.sizeOf238,
  v70 := Tryz.zeroValue238,
  t76 := Tryz.underlying247,
  a76 := Tryz.isAgg247,
  z76 := Tryz.sizeOf247,
  v76 := Tryz.zeroValue247,
  t77 := Tryz.underlying248,
  a77 := Tryz.isAgg248,
  z77 := Tryz.sizeOf248,
  v77 := Tryz.zeroValue248 }
end Go.Proofs


namespace Go.Proofs.YtgihpfkjpfanmaaGreat
open Go.RowKit Go.Sort Go.Shelf

/-- Place x comes before place y. -/
def apLt (fs : List Rat) (x y : Nat) : Prop := fs[y]?.getD 0 < fs[x]?.getD 0 ∨ (fs[y]?.getD 0 = fs[x]?.getD 0 ∧ x < y)

theorem cmpZ_neg_iff {x y : Int} : cmpZ x y < 0 ↔ x < y := by
  unfold cmpZ; split
  · simp [*]
  · split <;> simp [*]

theorem apCmp_lt (fs : List Rat) (x y : Nat) : apCmp fs x y < 0 ↔ apLt fs x y := by
  unfold apCmp orZ apLt
  by_cases h : cmpQ (fs[y]?.getD 0) (fs[x]?.getD 0) = 0
  · rw [if_pos h, cmpZ_neg_iff, cmpQ_eq.1 h]
    constructor
    · intro h1; exact Or.inr ⟨rfl, by omega⟩
    · rintro (h1 | ⟨_, h1⟩)
      · exact absurd h1 Rat.lt_irrefl
      · omega
  · rw [if_neg h, cmpQ_lt]
    constructor
    · exact Or.inl
    · rintro (h1 | ⟨h1, _⟩)
      · exact h1
      · exact absurd (cmpQ_eq.2 h1) h

theorem apLt_irrefl (fs : List Rat) (x : Nat) : ¬ apLt fs x x := by
  rintro (h | ⟨_, h⟩)
  · exact absurd h Rat.lt_irrefl
  · omega
theorem apLt_trans {fs : List Rat} {x y z : Nat} (h1 : apLt fs x y) (h2 : apLt fs y z) : apLt fs x z := by
  unfold apLt at *
  generalize fs[x]?.getD 0 = a at *
  generalize fs[y]?.getD 0 = b at *
  generalize fs[z]?.getD 0 = c at *
  rcases h1 with h1 | ⟨rfl, h1⟩
  · rcases h2 with h2 | ⟨rfl, h2⟩
    · exact Or.inl (by grind)
    · exact Or.inl h1
  · rcases h2 with h2 | ⟨rfl, h2⟩
    · exact Or.inl h2
    · exact Or.inr ⟨rfl, by omega⟩
theorem apLt_total (fs : List Rat) (x y : Nat) (h1 : ¬ apLt fs x y) (h2 : ¬ apLt fs y x) : x = y := by
  unfold apLt at *
  generalize fs[x]?.getD 0 = a at *
  generalize fs[y]?.getD 0 = b at *
  simp only [not_or, not_and, Nat.not_lt] at h1 h2
  have e : a = b := Rat.le_antisymm (Rat.not_lt.1 h1.1) (Rat.not_lt.1 h2.1)
  have i1 := h1.2 e.symm
  have i2 := h2.2 e
  omega
theorem apLt_ntrans {fs : List Rat} {x y z : Nat} (h1 : ¬ apLt fs x y) (h2 : ¬ apLt fs y z) : ¬ apLt fs x z := by
  intro h3
  by_cases e1 : x = y
  · subst e1; exact h2 h3
  · have h4 : apLt fs y x := Classical.byContradiction (fun h => e1 (apLt_total fs x y h1 h))
    exact h2 (apLt_trans h4 h3)

/-- w' is as w in the blocks of w but for b. -/
def Agree (b : Nat) (w w' : World) : Prop := ∀ k, k < w.heap.size → k ≠ b → w'.heap[k]? = w.heap[k]?

theorem Agree.cell {b : Nat} {w w' : World} (h : Agree b w w') {p : Addr} {v : Value} (hp : p.block ≠ b) (hc : w.cell? p = some v) : w'.cell? p = some v := by
  have := block_lt hc
  unfold World.cell? at *
  rw [h _ this hp]; exact hc
theorem Agree.raw {b : Nat} {w w' : World} (h : Agree b w w') {a : Option Addr} {k c n : Nat} (hr : Raw w a k c n) (hb : ∀ x, a = some x → x.block ≠ b) : Raw w' a k c n := by
  obtain ⟨l, h1, h2, h3⟩ := hr
  exact ⟨l, h1, h2, h3.le, h3.cap, h3.short, h3.nul, h3.small, fun i hi => by
    obtain ⟨b', o, ha, hc⟩ := h3.cell i hi
    exact ⟨b', o, ha, h.cell (p := ⟨b', o + i, none⟩) (show b' ≠ b from hb ⟨b', o, none⟩ ha) hc⟩⟩
theorem Agree.rats {b : Nat} {w w' : World} (h : Agree b w w') {g c : Nat} {rs : List RVal} {qs : List Rat} {L : Nat} (hr : Rats w (some ⟨g, 0, none⟩) c rs qs L) (hg : g ≠ b)
    (hb : ∀ i (hi : i < rs.length), (∀ x, rs[i].a = some x → x.block ≠ b) ∧ (∀ x, rs[i].b = some x → x.block ≠ b)) : Rats w' (some ⟨g, 0, none⟩) c rs qs L :=
  ⟨hr.len, hr.le, hr.cap, hr.short, fun i hi => by
    obtain ⟨b', o, ha, h0, h1, h2⟩ := hr.cell i hi
    cases ha
    exact ⟨g, 0, rfl, h.cell hg h0, h.cell hg h1, h.cell hg h2⟩, fun i hi => by
    obtain ⟨n, m, h1, h2, h3⟩ := hr.num i hi
    exact ⟨n, m, h.raw h1 (hb i hi).1, h.raw h2 (hb i hi).2, h3⟩⟩

theorem agree_sortWorld {α : Type} [Inhabited α] (enc : α → Value) (w : World) (blk off m : Nat) (d : Array α) (os : Array Obj) : Agree blk w (sortWorld enc w blk off m d os) := by
  intro k hk hne
  unfold sortWorld
  rw [heap_grow_old _ _ (by simpa [Sort.ahead] using hk)]
  unfold putRow mapBlock
  simp [Array.getElem?_modify, Ne.symm hne, Sort.ahead]

/-- The places in order. -/
def apOrder (fs : List Rat) (n : Nat) : List (Fin n) := (List.finRange n).mergeSort (fun x y => !(ltOf (fun a b : Fin n => apCmp fs a b) y x))

/-- The place that comes as number j. -/
def apAt (fs : List Rat) (n j : Nat) : Nat := ((apOrder fs n)[j]?.map (·.val)).getD 0

/-- What the sorting leaves: the places in order, everything else as it was. -/
structure Sorted (fs : List Rat) (n blk : Nat) (w w' : World) : Prop where
  cell : ∀ j, j < n → w'.cell? ⟨blk, j, none⟩ = some (.int .i64 (apAt fs n j : Nat))
  agree : Agree blk w w'
  size : w.heap.size ≤ w'.heap.size
  os : w'.os = w.os
  tape : w'.tape = w.tape
  output : w'.output = w.output
  drawn : w.drawn ≤ w'.drawn

end Go.Proofs.YtgihpfkjpfanmaaGreat


namespace Go.Proofs.YtgihpfkjpfanmaaGreat
open Go.RowKit

/-- The greatest amount. -/
def apMost : Rat := ((281474976710656 : Int) : Rat)
def apOk (q : Rat) : Prop := q ≤ apMost ∧ -q ≤ apMost

def isum (l : List Int) : Int := l.sum

/-- The fractional parts. -/
def fracs (qs : List Rat) : List Rat := qs.map fun q => q - ((q.floor : Int) : Rat)

/-- The numbers, the first t places in order raised by 1. -/
def apInc (fs : List Rat) (n : Nat) (l : List Int) : Nat → List Int
  | 0 => l
  | t + 1 => (apInc fs n l t).set (apAt fs n t) ((apInc fs n l t)[apAt fs n t]?.getD 0 + 1)
/-- A call returns a new list of integers and OK. -/
def ApGood (l : List Int) (w : World) (e : Ending) (w' : World) : Prop := ∃ b, e = .returned (.tuple #[.slice (some ⟨b, 0, none⟩) l.length l.length, .int .i64 0]) ∧ w.heap.size ≤ b ∧ Arr w' b 3 (i64s l) ∧ Ext w w'

end Go.Proofs.YtgihpfkjpfanmaaGreat


namespace Go.Proofs.YtgihpfkjpfanmaaGreat
open Go.RowKit

theorem qsum_take_zero (l : List Rat) : qsum (l.take 0) = 0 := rfl

theorem rsz_qsum (l : List Rat) (L : Nat) (h : ∀ i (hi : i < l.length), rsz l[i] ≤ L) : ∀ i, i ≤ l.length → rsz (qsum (l.take i)) ≤ i * (L + 1) + 1 := by
  intro i
  induction i with
  | zero => intro _; rw [qsum_take_zero, Nat.zero_mul, Nat.zero_add]; show rsz (((0 : Int) : Rat)) ≤ 1; rw [rsz_int]; decide
  | succ i ih =>
    intro hi
    rw [qsum_take (by omega)]
    have h1 := ih (by omega)
    have h2 := h i (by omega)
    have h3 := rsz_add (qsum (l.take i)) l[i]
    rw [Nat.succ_mul]; omega

/-- What Apportion makes of numbers whose sum is an integer. -/
def apOut (qs : List Rat) : List Int := apInc (fracs qs) qs.length (qs.map Rat.floor) ((qsum qs).floor - isum (qs.map Rat.floor)).toNat

end Go.Proofs.YtgihpfkjpfanmaaGreat


namespace Go.Proofs.YtgihpfkjpfanmaaGreat
open Go.RowKit

theorem apOrder_perm (fs : List Rat) (n : Nat) : (apOrder fs n).Perm (List.finRange n) := List.mergeSort_perm _ _
theorem apOrder_length (fs : List Rat) (n : Nat) : (apOrder fs n).length = n := by simpa using (apOrder_perm fs n).length_eq
theorem apOrder_sorted (fs : List Rat) (n : Nat) : (apOrder fs n).Pairwise (fun (x y : Fin n) => ¬ apLt fs y x) := by
  have e : ∀ a b : Fin n, (!(ltOf (fun a b : Fin n => apCmp fs a b) b a)) = true ↔ ¬ apLt fs b a := by
    intro a b; unfold ltOf; rw [Bool.not_eq_true', decide_eq_false_iff_not, apCmp_lt]
  have := List.pairwise_mergeSort (le := fun x y : Fin n => !(ltOf (fun a b : Fin n => apCmp fs a b) y x)) (fun a b c h1 h2 => by
    rw [e] at *; exact apLt_ntrans h2 h1) (fun a b => by
    rw [Bool.or_eq_true, e, e]
    by_cases h : apLt fs b a
    · right; intro h2; exact apLt_irrefl fs _ (apLt_trans h h2)
    · left; exact h) (List.finRange n)
  exact this.imp (fun {a b} h => (e a b).1 h)
theorem apAt_eq (fs : List Rat) (n j : Nat) (h : j < (apOrder fs n).length) : apAt fs n j = ((apOrder fs n)[j]).val := by
  unfold apAt; rw [List.getElem?_eq_getElem h]; rfl
theorem apAt_inj (fs : List Rat) (n j k : Nat) (hj : j < n) (hk : k < n) (h : apAt fs n j = apAt fs n k) : j = k := by
  have hl := apOrder_length fs n
  rw [apAt_eq fs n j (by omega), apAt_eq fs n k (by omega)] at h
  have hn : (apOrder fs n).Nodup := (apOrder_perm fs n).nodup_iff.2 (List.nodup_finRange n)
  have hp := List.pairwise_iff_getElem.1 hn
  have he := Fin.ext h
  rcases Nat.lt_trichotomy j k with h1 | h1 | h1
  · exact absurd he (hp j k (by omega) (by omega) h1)
  · exact h1
  · exact absurd he.symm (hp k j (by omega) (by omega) h1)
theorem apAt_mono (fs : List Rat) (n j k : Nat) (hj : j < k) (hk : k < n) : apLt fs (apAt fs n j) (apAt fs n k) := by
  have hl := apOrder_length fs n
  have h1 := List.pairwise_iff_getElem.1 (apOrder_sorted fs n) j k (by omega) (by omega) hj
  rw [← apAt_eq, ← apAt_eq] at h1
  refine Classical.byContradiction fun h2 => ?_
  have := apAt_inj fs n j k (by omega) hk (apLt_total fs _ _ h2 h1)
  omega

end Go.Proofs.YtgihpfkjpfanmaaGreat


namespace Go.Proofs.YtgihpfkjpfanmaaGreat
open Go.RowKit

/-- The parts of T by the weights qs. -/
def shOut (T : Int) (qs : List Rat) : List Int := apOut (qs.map fun q => ((T : Int) : Rat) / qsum qs * q)

end Go.Proofs.YtgihpfkjpfanmaaGreat


namespace Go.Proofs.YtgihpfkjpfanmaaGreat
open Go.RowKit

/-- uint64(v) % n -/
def modU (v n : Int) : Int := (v % 18446744073709551616) % n

theorem make_Mod (w : World) (v n : Int) (_hv1 : -9223372036854775808 ≤ v) (_hv2 : v < 9223372036854775808) (hn : 0 < n) (hn2 : n < 1000000) :
    Calls Tryz.prog 22 #[.int .i64 v, .int .i64 n] w fun e w' => e = .returned (.int .i64 (modU v n)) ∧ w = w' := by
  go_enter Tryz.func22, Tryz.ntmps22
  go_wp2_with fail
  go_ret
  refine ⟨ret_int ?_, rfl⟩
  have hw : IntKind.u64.wrap v = v % 18446744073709551616 := by
    simp [IntKind.wrap, IntKind.signed, IntKind.bits]
  have h0 : 0 ≤ v % 18446744073709551616 := Int.emod_nonneg _ (by omega)
  rw [hw, Int.tmod_eq_emod_of_nonneg h0]
  have a := Int.emod_nonneg (v % 18446744073709551616) (show n ≠ 0 by omega)
  have b := Int.emod_lt_of_pos (v % 18446744073709551616) hn
  unfold modU
  generalize v % 18446744073709551616 % n = z at *
  unfold wrap64; omega

/-- A slice of int: its cells. -/
def IntsAt (w : World) (a : Option Addr) (l : List Int) : Prop := ∃ b o, a = some ⟨b, o, none⟩ ∧ ∀ i (hi : i < l.length), w.cell? ⟨b, o + i, none⟩ = some (.int .i64 l[i])

theorem IntsAt.ext {w w' : World} {a : Option Addr} {l : List Int} (h : IntsAt w a l) (hX : Ext w w') : IntsAt w' a l := by
  obtain ⟨b, o, rfl, hc⟩ := h
  exact ⟨b, o, rfl, fun i hi => (hX.cell (block_lt (hc i hi))).trans (hc i hi)⟩

end Go.Proofs.YtgihpfkjpfanmaaGreat


namespace Go.Proofs.YtgihpfkjpfanmaaGreat
open Go.RowKit

theorem arr_ints {w : World} {b : Nat} {T : TypeId} {l : List Int} (h : Arr w b T (i64s l)) : IntsAt w (some ⟨b, 0, none⟩) l :=
  ⟨b, 0, rfl, fun i hi => by rw [h.cell, Nat.zero_add]; exact i64s_get l i hi⟩

end Go.Proofs.YtgihpfkjpfanmaaGreat


namespace Go.Proofs.YtgihpfkjpfanmaaGreat
open Go.RowKit

section
variable {P : Program} (w : World)

theorem run_append_at (base : Nat) (t ty e : TypeId) (i : TypeInfo) (z : Value) (size bytes : Nat) (ht : P.underlying t = some (.slice e)) (hi : P.info? e = some i) (hz : i.zero = some z)
    (hsize : i.size = size) (hby : i.bytes = bytes) (hzs : z.cells.size = size) (hsz : 0 < size)
    (v : Value) (n : Nat) (xs : List Value) (hown : w.ownsRow base e size v n xs)
    (a : Addr) (m c : Nat) (news : List Value) (hl : news.length = m * size) (hnews : ∀ j u, news[j]? = some u → w.cell? (a.add j) = some u) (h1 : ∀ u ∈ news, u.oneCell' = true)
    (h63 : n + m ≤ maxLen) (hbytes : (n + m) * bytes ≤ 140737488355328) (hbase : base ≤ w.heap.size) :
    ∃ v' w', (Builtin.append_ #[t, t] ty #[v, .slice (some a) m c]).run P w = .ok v' w' ∧ w'.ownsRow base e size v' (n + m) (xs ++ news) ∧ w.grownBy w' v.ownBlock ∧ w.drawn ≤ w'.drawn ∧ (v'.ownBlock = v.ownBlock ∨ ∃ g, v'.ownBlock = some g ∧ w.heap.size ≤ g) := by
  obtain ⟨v', w', hr, h2, h3, _⟩ := run_append_own (P := P) w base t ty e i z size bytes ht hi hz hsize hby hzs hsz v n xs hown a m c news hl hnews h1 h63 hbytes hbase
  refine ⟨v', w', hr, h2, h3, ?_⟩
  subst hsize
  subst hby
  have hsmall : n + m ≤ 9223372036854775807 := by simp only [maxLen] at h63; omega
  rcases hown.2 with ⟨rfl, rfl⟩ | ⟨g, cap, cur, rfl, hbg, hg, hnc, hcm, hcs, htake⟩
  · have hx : xs = [] := List.eq_nil_of_length_eq_zero (by simpa using hown.1)
    subst hx
    by_cases hm : m = 0
    · subst hm
      have hn : news = [] := List.eq_nil_of_length_eq_zero (by simpa using hl)
      subst hn
      have hr' : (Builtin.append_ #[t, t] ty #[.slice none 0 0, .slice (some a) 0 c]).run P w = .ok (.slice none 0 0) w := by
        simp [Builtin.append_, run_underlying ht, sizeOf, typeInfo, hi, Builtin.lenOf, Builtin.firstCells, loadCells, loadCellsFrom]
      rw [hr'] at hr; cases hr; exact ⟨Nat.le_refl _, .inl rfl⟩
    · have hr' := run_append_nil (P := P) w t ty e i z ht hi hz a m c news hl hnews (by omega) (by omega) (by have hb := hbytes; simp only [Nat.zero_add] at hb; omega)
      rw [hr'] at hr; cases hr; exact ⟨Nat.le_succ _, .inr ⟨_, rfl, Nat.le_refl _⟩⟩
  · by_cases hroom : n + m ≤ cap
    · have hfit : n * i.size + news.length ≤ cur.size := by rw [hl, hcs, ← Nat.add_mul]; exact Nat.mul_le_mul_right _ hroom
      have hr' := run_append_room (P := P) w t ty e i ht hi g n cap cur hg a m c news hl hnews h1 hroom hfit
      rw [hr'] at hr; cases hr; exact ⟨Nat.le_refl _, .inl rfl⟩
    · have holds : ∀ j u, xs[j]? = some u → w.cell? ((⟨g, 0, none⟩ : Addr).add j) = some u := hown.cells (g := g) rfl
      have hr' := run_append_grow (P := P) w t ty e i z ht hi hz ⟨g, 0, none⟩ n cap xs hown.1 holds a m c news hl hnews (by omega) (by omega) (growslice_fits (by omega) hbytes)
      rw [hr'] at hr; cases hr; exact ⟨Nat.le_succ _, .inr ⟨_, rfl, Nat.le_refl _⟩⟩

/-- 'append(s, x...)' where s is nil or the call's own: what lay before the call's own blocks stays. -/
theorem wpList_append_at {ops : Array Oper} {rest : List Oper} {o : Oper} {a : Act} {Q : Exit → Act → World → Prop} (hgd : o.guard = none) (s x : Operand) (t : TypeId)
    (ho : o.op = .call { callee := .builtin .append, args := #[s, x], argTypes := #[t, t] })
    (base : Nat) (e : TypeId) (z : Value) (size bytes : Nat) (ht : P.underlying t = some (.slice e)) (hinfo : (P.info? e).map (fun i => (i.zero, i.size, i.bytes)) = some (some z, size, bytes)) (hzs : z.cells.size = size) (hsz : 0 < size)
    (v : Value) (n : Nat) (xs : List Value) (hs : a.eval s = v) (hown : w.ownsRow base e size v n xs)
    (xa : Option Addr) (m c : Nat) (news : List Value) (hx : a.eval x = .slice xa m c) (hl : news.length = m * size) (hnews : 0 < m → ∃ ad, xa = some ad ∧ ∀ j u, news[j]? = some u → w.cell? (ad.add j) = some u) (h1 : ∀ u ∈ news, u.oneCell' = true)
    (hnil : xa = none → m = 0 ∧ c = 0)
    (h63 : n + m ≤ 1200000000000) (hbytes : bytes ≤ 100) (hbase : base ≤ w.heap.size)
    (h : ∀ v' w', Hid (w'.ownsRow base e size v' (n + m) (xs ++ news)) → Hid (∀ a0, Ext a0 w → a0.heap.size ≤ base → Ext a0 w') → Hid (∀ k, k < w.heap.size → some k ≠ v.ownBlock → w'.heap[k]? = w.heap[k]?) → Hid (w.heap.size ≤ w'.heap.size) → Hid (v'.ownBlock = v.ownBlock ∨ ∃ g, v'.ownBlock = some g ∧ w.heap.size ≤ g) → wpList P ops Q rest (a.put o.dst v') w') : wpList P ops Q (o :: rest) a w := by
  obtain ⟨i, hi, hz, hsize, hby⟩ := info_parts hinfo
  have hlt := hown.lt
  have hb : (n + m) * bytes ≤ 140737488355328 := Nat.le_trans (Nat.mul_le_mul h63 hbytes) (by decide)
  have hm63 : n + m ≤ maxLen := by unfold maxLen; omega
  cases xa with
  | none =>
    obtain ⟨rfl, rfl⟩ := hnil rfl
    have hn : news = [] := List.eq_nil_of_length_eq_zero (by simpa using hl)
    subst hn
    refine wpList_append_own_none hgd s x t ho base e i size ht hi v n xs hs hown hx ?_
    exact h v w (Lib.hid (by simpa using hown)) (fun _ h _ => h) (fun _ _ _ => rfl) (Nat.le_refl _) (.inl rfl)
  | some ad =>
    have hnews' : ∀ j u, news[j]? = some u → w.cell? (ad.add j) = some u := by
      intro j u hu
      by_cases hm : 0 < m
      · obtain ⟨ad', e', hh⟩ := hnews hm; cases e'; exact hh j u hu
      · have : news = [] := List.eq_nil_of_length_eq_zero (by rw [hl]; have : m = 0 := by omega
                                                              simp [this])
        rw [this] at hu; simp at hu
    refine wpList_plain hgd fun K hK => ?_
    obtain ⟨v', w', hr, h2, h3, h4, h5⟩ := run_append_at (P := P) w base t o.type e i z size bytes ht hi hz hsize hby hzs hsz v n xs hown ad m c news hl hnews' h1 hm63 hb hbase
    unfold Oper.wp execOp
    simp only [ho, resolve, invoke, builtin, Sem.run_bind, Sem.run_pure, Result.andThen_ok, List.map_toArray, List.map_cons, List.map_nil, hs, hx, hr]
    refine hK _ _ (h v' w' h2 (fun a0 ha hb0 => ⟨ha.below.trans ⟨h3.os, h3.tape, h3.output, h3.size, fun k hk => h3.block k (by have := ha.size; omega) (fun e' => by have := hlt k e'.symm; omega)⟩, Nat.le_trans ha.drawn h4⟩) h3.block h3.size h5)
end


end Go.Proofs.YtgihpfkjpfanmaaGreat


namespace Go.Proofs.YtgihpfkjpfanmaaGreat
open Go.RowKit

/-- A slice of int that came in. -/
structure IntIn (w : World) (a : Option Addr) (c : Nat) (xs : List Int) : Prop where
  le : xs.length ≤ c
  cap : c ≤ 9223372036854775807
  cell : ∀ i (h : i < xs.length), ∃ b o, a = some ⟨b, o, none⟩ ∧ w.cell? ⟨b, o + i, none⟩ = some (.int .i64 xs[i])
  rng : ∀ i (h : i < xs.length), -9223372036854775808 ≤ xs[i] ∧ xs[i] < 9223372036854775808

theorem IntIn.ext {w w' : World} {a : Option Addr} {c : Nat} {xs : List Int} (h : IntIn w a c xs) (e : Ext w w') : IntIn w' a c xs :=
  ⟨h.le, h.cap, fun i hi => by obtain ⟨b, o, ha, hc⟩ := h.cell i hi; exact ⟨b, o, ha, cell_ext e hc⟩, h.rng⟩

theorem modU_range (v n : Int) (hn : 0 < n) : 0 ≤ modU v n ∧ modU v n < n :=
  ⟨Int.emod_nonneg _ (by omega), Int.emod_lt_of_pos _ hn⟩

/-- The limbs of r do not lie in the block row. -/
def Off (r : RVal) (row : Option Nat) : Prop := (0 < r.k → ∀ x, r.a = some x → some x.block ≠ row) ∧ (0 < r.j → ∀ x, r.b = some x → some x.block ≠ row)

/-- A slice of rational numbers that the call itself makes by append: v lies in blocks from w.heap.size on. -/
structure RatRow (w wr : World) (v : Value) (rs : List RVal) (qs : List Rat) (L : Nat) : Prop where
  len : qs.length = rs.length
  own : wr.ownsRow w.heap.size 55 3 v rs.length (ratCells rs)
  num : ∀ k (hk : k < rs.length), IsRat wr rs[k] (qs[k]'(by omega)) L
  off : ∀ k (hk : k < rs.length), Off rs[k] v.ownBlock
  ext : Ext w wr

theorem ownsRow_ext {w w' : World} {base : Nat} {e : TypeId} {s : Nat} {v : Value} {n : Nat} {xs : List Value} (h : w.ownsRow base e s v n xs) (hX : Ext w w') : w'.ownsRow base e s v n xs := by
  obtain ⟨h1, h2⟩ := h
  refine ⟨h1, ?_⟩
  rcases h2 with h2 | ⟨g, cap, cur, hv, hb, hg, hr⟩
  · exact .inl h2
  · refine .inr ⟨g, cap, cur, hv, hb, ?_, hr⟩
    rw [hX.below.block g (Array.getElem?_eq_some_iff.1 hg).1]; exact hg

theorem RatRow.extend {w wr wr' : World} {v : Value} {rs : List RVal} {qs : List Rat} {L : Nat} (h : RatRow w wr v rs qs L) (e : Ext wr wr') : RatRow w wr' v rs qs L :=
  ⟨h.len, ownsRow_ext h.own e, fun k hk => (h.num k hk).ext e, h.off, h.ext.trans e⟩

theorem RatRow.start {w wr : World} (h : Ext w wr) (L : Nat) : RatRow w wr (.slice none 0 0) [] [] L :=
  ⟨rfl, ⟨rfl, .inl ⟨rfl, rfl⟩⟩, fun _k hk => absurd hk (Nat.not_lt_zero _), fun _k hk => absurd hk (Nat.not_lt_zero _), h⟩

theorem Raw.lt {w : World} {a : Option Addr} {k c n : Nat} (h : Raw w a k c n) (hk : 0 < k) : ∀ x, a = some x → x.block < w.heap.size := by
  intro x hx
  obtain ⟨l, e1, e2, e3⟩ := h
  obtain ⟨b', o, ha, hc⟩ := e3.cell 0 (by omega)
  have := block_lt hc
  rw [hx] at ha; cases ha
  exact this

/-- A number whose limbs do not lie in the block written stays. -/
theorem IsRat.keep {w w' : World} {r : RVal} {q : Rat} {L : Nat} {row : Option Nat} (h : IsRat w r q L) (hb : ∀ k, k < w.heap.size → some k ≠ row → w'.heap[k]? = w.heap[k]?) (ho : Off r row) : IsRat w' r q L := by
  have key : ∀ {a : Option Addr} {k c n : Nat}, Raw w a k c n → (0 < k → ∀ x, a = some x → some x.block ≠ row) → Raw w' a k c n := by
    intro a k c n hr ho
    obtain ⟨l, e1, e2, e3⟩ := hr
    refine ⟨l, e1, e2, e3.le, e3.cap, e3.short, e3.nul, e3.small, fun i hi => ?_⟩
    obtain ⟨b', o, ha, hc⟩ := e3.cell i hi
    refine ⟨b', o, ha, ?_⟩
    have hlt := block_lt hc
    unfold World.cell? at *
    rw [hb _ hlt (ho (by omega) ⟨b', o, none⟩ ha)]; exact hc
  obtain ⟨n, m, g1, g2, g3⟩ := h
  exact ⟨n, m, key g1 ho.1, key g2 ho.2, g3⟩

/-- The block that the slice lies in after an append. -/
theorem Off.next {w : World} {r : RVal} {q : Rat} {L : Nat} {v v' : Value} (ho : Off r v.ownBlock) (h : IsRat w r q L) (hv : v'.ownBlock = v.ownBlock ∨ ∃ g, v'.ownBlock = some g ∧ w.heap.size ≤ g) : Off r v'.ownBlock := by
  obtain ⟨n, m, g1, g2, g3⟩ := h
  rcases hv with hv | ⟨g, hg, hs⟩
  · rw [hv]; exact ho
  · rw [hg]
    constructor
    · intro hk x hx e; cases e; have := g1.lt hk x hx; omega
    · intro hk x hx e; cases e; have := g2.lt hk x hx; omega

theorem RatRow.snoc {w wr w' : World} {v v' : Value} {rs : List RVal} {qs : List Rat} {L : Nat} {r : RVal} {q : Rat} (h : RatRow w wr v rs qs L) (hr : IsRat wr r q L) (hro : Off r v.ownBlock)
    (ho : w'.ownsRow w.heap.size 55 3 v' (rs.length + 1) (ratCells rs ++ r.cells)) (hX : Ext w w') (hb : ∀ k, k < wr.heap.size → some k ≠ v.ownBlock → w'.heap[k]? = wr.heap[k]?)
    (hv : v'.ownBlock = v.ownBlock ∨ ∃ g, v'.ownBlock = some g ∧ wr.heap.size ≤ g) : RatRow w w' v' (rs ++ [r]) (qs ++ [q]) L := by
  have hl := h.len
  refine ⟨by simp [hl], by rw [ratCells_snoc, List.length_append]; exact ho, ?_, ?_, hX⟩
  · intro k hk
    rw [List.length_append, List.length_singleton] at hk
    by_cases hk' : k < rs.length
    · rw [List.getElem_append_left hk', List.getElem_append_left (by omega)]
      exact (h.num k hk').keep hb (h.off k hk')
    · obtain rfl : k = rs.length := by omega
      rw [List.getElem_append_right (Nat.le_refl _), List.getElem_append_right (by omega)]
      simp only [hl, Nat.sub_self, List.getElem_singleton]
      exact hr.keep hb hro
  · intro k hk
    rw [List.length_append, List.length_singleton] at hk
    by_cases hk' : k < rs.length
    · rw [List.getElem_append_left hk']
      exact (h.off k hk').next (h.num k hk') hv
    · obtain rfl : k = rs.length := by omega
      rw [List.getElem_append_right (Nat.le_refl _)]
      simp only [Nat.sub_self, List.getElem_singleton]
      exact hro.next hr hv

/-- What r3_Of returns does not lie in a block that was there before. -/
theorem off_fresh {w : World} {base : Nat} {e : TypeId} {s : Nat} {v : Value} {n : Nat} {ys : List Value} (h : w.ownsRow base e s v n ys) {r : RVal} (h1 : Fr w.heap.size r.a) (h2 : Fr w.heap.size r.b) : Off r v.ownBlock := by
  have hlt := h.lt
  constructor
  · intro _ x hx e
    have := hlt x.block e.symm
    have := h1 x hx
    omega
  · intro _ x hx e
    have := hlt x.block e.symm
    have := h2 x hx
    omega

/-- The whole list. -/
theorem RatRow.rats {w wr : World} {v : Value} {rs : List RVal} {qs : List Rat} {L : Nat} (h : RatRow w wr v rs qs L) (hs : rs.length ≤ 1000000) : ∃ a c, v = .slice a rs.length c ∧ Rats wr a c rs qs L := by
  obtain ⟨h1, h2⟩ := h.own
  have hl := h.len
  rcases h2 with ⟨rfl, h0⟩ | ⟨g, cap, cur, rfl, hb, hg, hn, hcap, hcs, htake⟩
  · refine ⟨none, 0, by rw [h0], hl, by omega, by omega, by omega, fun i hi => by omega, h.num⟩
  · refine ⟨some ⟨g, 0, none⟩, cap, rfl, hl, by omega, by unfold maxLen at hcap; omega, by omega, ?_, h.num⟩
    intro i hi
    have hc : ∀ k, k < 3 → wr.cell? ⟨g, 0 + i * 3 + k, none⟩ = (rs[i].cells)[k]? := by
      intro k hk
      have h3 : (cur.toList.take (rs.length * 3))[i * 3 + k]? = (ratCells rs)[i * 3 + k]? := by rw [htake]
      rw [ratCells_get rs i k hi hk, List.getElem?_take, if_pos (by omega)] at h3
      simp only [World.cell?, hg]
      rw [Nat.zero_add]
      simpa using h3
    exact ⟨g, 0, rfl, hc 0 (by omega), hc 1 (by omega), hc 2 (by omega)⟩

end Go.Proofs.YtgihpfkjpfanmaaGreat


namespace Go.Proofs.YtgihpfkjpfanmaaGreat
open Go.ChangeShapes Go.WideShapes Go.ChangeAt Go.RowKit

theorem Tryz.own : ownKnob Tryz.prog.godebug = none := by kernel_rfl
theorem Tryz.laidOut : laidOutB Tryz.prog = true := by kernel_rfl

/-- A slice of integers that came in: it is nil; or it leads to a row of 'cap' cells. -/
def IsRow (k : IntKind) (w : World) (a : Option Addr) (len cap : Nat) (zs : List Int) : Prop :=
  (a = none ∧ len = 0 ∧ cap = 0 ∧ zs = []) ∨
  ∃ x, a = some x ∧ len ≤ cap ∧ cap ≤ maxLen ∧ zs.length = cap ∧ (∀ i, i < zs.length → w.cell? (x.add i) = some (.int k (zs.getD i 0))) ∧ ∀ n ∈ zs, (Lit.int k n).wf = true

theorem wf_i64 {n : Int} (h : (Lit.int .i64 n).wf = true) : -9223372036854775808 ≤ n ∧ n < 9223372036854775808 := by
  simp [Lit.wf, IntKind.min, IntKind.max, IntKind.signed, IntKind.bits] at h
  omega

theorem IsRow.intIn {w : World} {a : Option Addr} {len cap : Nat} {zs : List Int} (h : IsRow .i64 w a len cap zs) : (zs.take len).length = len ∧ IntIn w a cap (zs.take len) := by
  rcases h with ⟨rfl, rfl, rfl, rfl⟩ | ⟨x, rfl, h1, h2, h3, h4, h5⟩
  · exact ⟨rfl, ⟨Nat.le_refl _, by omega, fun i hi => absurd hi (Nat.not_lt_zero _), fun i hi => absurd hi (Nat.not_lt_zero _)⟩⟩
  · have hl : (zs.take len).length = len := by rw [List.length_take]; omega
    refine ⟨hl, ⟨by omega, by unfold maxLen at h2; omega, fun i hi => ?_, fun i hi => ?_⟩⟩
    · have hc := h4 i (by omega)
      obtain ⟨b, off, spot⟩ := x
      have hspot : spot = none := by simpa [Addr.add] using World.cell?_spot (h4 0 (by omega))
      subst hspot
      refine ⟨b, off, rfl, ?_⟩
      rw [show (Addr.add ⟨b, off, none⟩ i) = ⟨b, off + i, none⟩ from by unfold Addr.add; split <;> simp_all] at hc
      rw [hc, List.getElem_take]
      have hi' : i < zs.length := by omega
      simp [hi']
    · rw [List.getElem_take]
      exact wf_i64 (h5 _ (List.getElem_mem _))

end Go.Proofs.YtgihpfkjpfanmaaGreat


namespace Go.Proofs.YtgihpfkjpfanmaaGreat
open Go.RowKit

theorem IntIn.at {w : World} {a : Option Addr} {c : Nat} {xs : List Int} (h : IntIn w a c xs) (h0 : 0 < xs.length) : ∃ b o, a = some ⟨b, o, none⟩ := by
  obtain ⟨b, o, ha, _⟩ := h.cell 0 h0; exact ⟨b, o, ha⟩

theorem cells_new (w : World) (T : TypeId) (vs : List Value) : ∀ j u, vs[j]? = some u → (w.alloc (.cells vs.toArray T)).cell? (Addr.add ⟨w.heap.size, 0, none⟩ j) = some u := by
  intro j u hu
  rw [show (Addr.add ⟨w.heap.size, 0, none⟩ j) = ⟨w.heap.size, 0 + j, none⟩ from by unfold Addr.add; split <;> simp_all, Nat.zero_add, (Arr.alloc w T vs).cell]
  exact hu
theorem ratVals_one (r : RVal) : ∀ u ∈ r.cells, u.oneCell' = true := by
  intro u hu
  simp only [RVal.cells, List.mem_cons, List.not_mem_nil, or_false] at hu
  rcases hu with rfl | rfl | rfl <;> rfl

end Go.Proofs.YtgihpfkjpfanmaaGreat


namespace Go.Proofs.YtgihpfkjpfanmaaGreat
open Go.RowKit

/-- At most L places of limbs each. -/
def RShort (rs : List RVal) (L : Nat) : Prop := ∀ k (hk : k < rs.length), rs[k].k ≤ L ∧ rs[k].j ≤ L
theorem RShort.nil (L : Nat) : RShort [] L := fun _ hk => absurd hk (Nat.not_lt_zero _)
theorem RShort.snoc {rs : List RVal} {L : Nat} (h : RShort rs L) {r : RVal} (h1 : r.k ≤ L) (h2 : r.j ≤ L) : RShort (rs ++ [r]) L := by
  intro k hk
  rw [List.length_append, List.length_singleton] at hk
  by_cases hk' : k < rs.length
  · rw [List.getElem_append_left hk']; exact h k hk'
  · obtain rfl : k = rs.length := by omega
    rw [List.getElem_append_right (Nat.le_refl _)]
    simp only [Nat.sub_self, List.getElem_singleton]
    exact ⟨h1, h2⟩
theorem IsCan.short {w : World} {r : RVal} {q : Rat} {B L : Nat} (h : IsCan w r q B) (hl : rsz q ≤ L) : r.k ≤ L ∧ r.j ≤ L := by
  have h1 := rsz_num q
  have h2 := rsz_den q
  rw [h.k, h.j]; omega

end Go.Proofs.YtgihpfkjpfanmaaGreat


namespace Go.Proofs.YtgihpfkjpfanmaaGreat
open Go.RowKit

/-- The state at the head of the second loop: i of the parts are there. -/
def FaAt (W4 : World) (qs : List Rat) (n bp BB : Nat) (i : Nat) (wr : World) : Prop :=
  ∃ prs : List RVal, prs.length = i ∧ i ≤ n ∧ Arr wr bp 55 (ratCells prs ++ zeros3 (n - i)) ∧ (∀ k (hk : k < prs.length), IsCan wr prs[k] (qs[k]?.getD 0 - (((qs[k]?.getD 0).floor : Int) : Rat)) BB) ∧ Ext W4 wr ∧ BB ≤ wr.heap.size

theorem FaAt.extend {W4 : World} {qs : List Rat} {n bp BB i : Nat} {wr w' : World} (h : FaAt W4 qs n bp BB i wr) (e : Ext wr w') : FaAt W4 qs n bp BB i w' := by
  obtain ⟨prs, h1, h2, h3, h4, h5, h6⟩ := h
  exact ⟨prs, h1, h2, h3.ext e, fun k hk => (h4 k hk).ext e, h5.trans e, Nat.le_trans h6 e.size⟩

end Go.Proofs.YtgihpfkjpfanmaaGreat


namespace Go.Proofs.YtgihpfkjpfanmaaGreat
open Go.RowKit Go.Shelf

theorem Tryz.sortL0 : Go.Proofs.SlLaysF0.n6 Tryz.prog Tryz.sortL_ren := { Tryz.sortL with }

end Go.Proofs.YtgihpfkjpfanmaaGreat


namespace Go.Proofs.YtgihpfkjpfanmaaGreat
open Go.RowKit

open Classical in
/-- The error that Apportion gives, or 0. -/
noncomputable def apE (qs : List Rat) : Int := if 128 < qs.length ∨ (∃ q ∈ qs, ¬ apOk q) then 8 else if qsum qs = (((qsum qs).floor : Int) : Rat) then 0 else 14

/-- What Apportion returns. -/
def ApRes (qs : List Rat) (w : World) (e : Ending) (w' : World) : Prop :=
  (apE qs = 0 ∧ ApGood (apOut qs) w e w') ∨ (¬ apE qs = 0 ∧ e = .returned (.tuple #[.slice none 0 0, .int .i64 (apE qs)]) ∧ Ext w w')

end Go.Proofs.YtgihpfkjpfanmaaGreat
