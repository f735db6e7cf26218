/- Texts of the proof: Ref9, Ref10. -/
import Derived.Test.YtgihpfkjpfanmaaGreatGH
import Derived.Test.YtgihpfkjpfanmaaGreatGG
import Derived.Deep.DeepCutAuto
/- Contracts of the reference's package 02: Sign, Value, DivMod. -/
namespace Go.Proofs.YtgihpfkjpfanmaaGreat
open Go.RowKit

theorem NewInts.of4 {w W w4 w5 : World} {a a' : Option Addr} {c c' : Nat} {x y : Int} (h : Raw w4 a (len x.natAbs) c x.natAbs) (h' : Raw w4 a' (len y.natAbs) c' y.natAbs) (hf : Fr W.heap.size a) (hf' : Fr W.heap.size a') (hW : Ext w W) (h2 : Ext w w4)
    (t : Touch w.heap.size W.heap.size w4 w5) : NewInts x y w (.returned (.tuple #[.agg #[.bool (decide (x < 0)), .slice a (len x.natAbs) c], .agg #[.bool (decide (y < 0)), .slice a' (len y.natAbs) c'], .bool true])) w5 :=
  ⟨a, c, a', c', rfl, h.touch t hf.out, hf.mono hW.size, h'.touch t hf'.out, hf'.mono hW.size, h2.of_touch t⟩
theorem ret_pair {k : IntKind} {a b : Int} {v : Value} (h : a = b) : Ending.returned (.tuple #[.int k a, v]) = .returned (.tuple #[.int k b, v]) := by rw [h]
theorem Arr.set2 {w : World} {b : Nat} {T : TypeId} {x y : Value} (h : Arr w b T [x, y]) (u v : Value) : Arr ((w.setCell ⟨b, 0, none⟩ u).setCell ⟨b, 1, none⟩ v) b T [u, v] := (h.set 0 u).set 1 v
theorem Arr.other2 {w : World} {b b' : Nat} {T : TypeId} {vs : List Value} (h : Arr w b T vs) (u v : Value) (hb : b' ≠ b) : Arr ((w.setCell ⟨b', 0, none⟩ u).setCell ⟨b', 1, none⟩ v) b T vs := (h.other _ _ hb).other _ _ hb

set_option maxHeartbeats 400000 in
/-- ref02.Sign. -/
theorem r2_Sign (w : World) (s : Bool) (a : Option Addr) (k c n : Nat) (h : Raw w a k c n) :
    Calls Tryz.prog 93 #[.agg #[.bool s, .slice a k c]] w fun e w' => e = .returned (.int .i64 (sgn s n).sign) ∧ Ext w w' := by
  have hN := fun V (hV : Ext w V) => r2_Norm V s a k c n (h.ext hV)
  generalize sgn s n = z at hN ⊢
  have HN := Lib.hid hN; clear hN
  go_enter Tryz.func93, Tryz.ntmps93
  go_wp2_with fail
  obtain ⟨W, hW, x0, Z0, A0⟩ := boxes1 w 53 [.bool s, .slice a k c]
  rw [← hW]
  clear hW
  obtain ⟨k0_0, k0_1, f0_0, f0_1⟩ := box2 A0 (Ext.refl _)
  have z0 := (A0.ext (Ext.refl _)).lt
  refine (HN.out _ x0).mono ?_
  rintro e w1 ⟨a1, c1, rfl, hr1, hf1, hx1⟩
  obtain ⟨k0_0, k0_1, f0_0, f0_1⟩ := box2 A0 hx1
  have z0 := (A0.ext hx1).lt
  have fin : ∀ v0 v1, Ext w ((w1.setCell ⟨w.heap.size, 0, none⟩ v0).setCell ⟨w.heap.size, 1, none⟩ v1) := fun v0 v1 => x0.touch hx1 (Touch.two _ (Nat.le_refl _) (by rw [Z0.out]; omega) _ _)
  have FIN := Lib.hid fin; clear fin
  have lz := hr1.le
  rcases Int.lt_trichotomy z 0 with hz | hz | hz
  · have hs := Int.sign_eq_neg_one_of_neg hz
    have HS := Lib.hid hs; clear hs
    rw [decide_eq_true hz]
    go_wp2_with fail
    go_ret
    exact ⟨ret_int HS.out.symm, FIN.out _ _⟩
  · subst hz
    have hd : decide ((0 : Int) < 0) = false := rfl
    have hl : len (Int.natAbs 0) = 0 := rfl
    rw [hd, hl]
    go_wp2_with fail
    go_ret
    exact ⟨rfl, FIN.out _ _⟩
  · have hs := Int.sign_eq_one_of_pos hz
    have HS := Lib.hid hs; clear hs
    have hp := len_pos.2 (show 0 < z.natAbs by omega)
    have hb : (((len z.natAbs : Nat) : Int) == 0) = false := by rw [beq_eq_false_iff_ne]; omega
    rw [decide_eq_false (show ¬ z < 0 by omega)]
    go_wp2_with fail
    go_ret
    exact ⟨ret_int HS.out.symm, FIN.out _ _⟩

set_option maxHeartbeats 400000 in
/-- ref02.Value of a number that fits. -/
theorem r2_Value (w : World) (s : Bool) (a : Option Addr) (k c n : Nat) (h : Raw w a k c n) (h1 : -9223372036854775808 ≤ sgn s n) (h2 : sgn s n ≤ 9223372036854775807) :
    Calls Tryz.prog 40 #[.agg #[.bool s, .slice a k c]] w fun e w' => e = .returned (.tuple #[.int .i64 (sgn s n), .bool true]) ∧ Ext w w' := by
  have hU : ∀ V a' c', Raw V a' (len (sgn s n).natAbs) c' (sgn s n).natAbs → Calls Tryz.prog 91 #[.slice a' (len (sgn s n).natAbs) c'] V fun e w' => e = .returned (.tuple #[.int .u64 ((sgn s n).natAbs : Nat), .bool true]) ∧ Ext V w' := fun V a' c' hR => r1_Uint64_yes _ _ _ _ _ hR (by omega)
  have hN := fun V (hV : Ext w V) => r2_Norm V s a k c n (h.ext hV)
  generalize sgn s n = z at *
  have HN := Lib.hid hN; have HU := Lib.hid hU; clear hN hU
  go_enter Tryz.func40, Tryz.ntmps40
  go_wp2_with fail
  obtain ⟨W, hW, x0, Z0, A0⟩ := boxes1 w 53 [.bool s, .slice a k c]
  rw [← hW]
  clear hW
  obtain ⟨k0_0, k0_1, f0_0, f0_1⟩ := box2 A0 (Ext.refl _)
  have z0 := (A0.ext (Ext.refl _)).lt
  refine (HN.out _ x0).mono ?_
  rintro e w1 ⟨a1, c1, rfl, hr1, hf1, hx1⟩
  obtain ⟨k0_0, k0_1, f0_0, f0_1⟩ := box2 A0 hx1
  have z0 := (A0.ext hx1).lt
  have A1 : Arr ((w1.setCell ⟨w.heap.size, 0, none⟩ (.bool (decide (z < 0)))).setCell ⟨w.heap.size, 1, none⟩ (.slice a1 (len (z).natAbs) c1)) w.heap.size 53 [.bool (decide (z < 0)), .slice a1 (len (z).natAbs) c1] := by
    have := ((A0.ext hx1).set 0 (.bool (decide (z < 0)))).set 1 (.slice a1 (len (z).natAbs) c1)
    exact this
  have t1 : Touch w.heap.size W.heap.size w1 ((w1.setCell ⟨w.heap.size, 0, none⟩ (.bool (decide (z < 0)))).setCell ⟨w.heap.size, 1, none⟩ (.slice a1 (len (z).natAbs) c1)) := Touch.two _ (Nat.le_refl _) (by rw [Z0.out]; omega) _ _
  have fin := x0.touch hx1 t1
  have r1 := hr1.touch t1 hf1.out
  have lz := hr1.le
  clear hr1 hf1 t1
  go_upto_region 2 with fail
  clear k0_0 k0_1 f0_0 f0_1 z0
  generalize (w1.setCell ⟨w.heap.size, 0, none⟩ (.bool (decide (z < 0)))).setCell ⟨w.heap.size, 1, none⟩ (.slice a1 (len (z).natAbs) c1) = w2 at *
  obtain ⟨k0_0, k0_1, f0_0, f0_1⟩ := box2 A1 (Ext.refl _)
  go_wp2_with fail
  refine (HU.out _ _ _ r1).mono ?_
  rintro e w3 ⟨rfl, hx3⟩
  obtain ⟨k0_0, k0_1, f0_0, f0_1⟩ := box2 A1 hx3
  by_cases hz : z < 0
  · rw [decide_eq_true hz] at *
    obtain ⟨q, rfl⟩ : ∃ q : Nat, z = -((q + 1 : Nat) : Int) := ⟨z.natAbs - 1, by omega⟩
    have hq : (-((q + 1 : Nat) : Int)).natAbs = q + 1 := by omega
    rw [hq]
    have hqb : q < 9223372036854775808 := by omega
    have d1 : decide (((q : Int) + 1) ≤ 9223372036854775808) = true := by simp; omega
    have d2 : (q : Int) < 9223372036854775808 := by omega
    clear h1 h2 hz
    go_wp2_with fail
    go_ret2
    exact ⟨ret_pair (show -(q : Int) - 1 = -((q + 1 : Nat) : Int) by omega), fin.trans hx3⟩
  · rw [decide_eq_false hz] at *
    obtain ⟨q, rfl⟩ : ∃ q : Nat, z = (q : Int) := ⟨z.natAbs, by omega⟩
    rw [Int.natAbs_natCast] at *
    have d1 : ¬ (9223372036854775808 : Int) ≤ (q : Int) := by omega
    go_wp2_with fail
    go_ret2
    exact ⟨rfl, fin.trans hx3⟩

set_option maxHeartbeats 4000000 in
set_option maxRecDepth 100000 in
/-- ref02.DivMod. -/
theorem r2_DivMod (w : World) (s t : Bool) (a b : Option Addr) (k c k' c' n m : Nat) (h : Raw w a k c n) (h' : Raw w b k' c' m) (hm : 0 < m) (b1 : k < 900000000) (b2 : k' < 900000000) :
    Calls Tryz.prog 92 #[.agg #[.bool s, .slice a k c], .agg #[.bool t, .slice b k' c']] w (NewInts (sgn s n / sgn t m) (sgn s n % sgn t m) w) := by
  have hq1 := fun V a' c' (hV : Raw V a' (len (n / m)) c' (n / m)) => r2_Make V (s != t) a' _ c' _ hV
  have hq2 := fun V a' c' (hV : Raw V a' (len (n % m)) c' (n % m)) => r2_Make V s a' _ c' _ hV
  obtain ⟨Q, hQ⟩ : ∃ Q, Q = sgn (s != t) (n / m) := ⟨_, rfl⟩
  obtain ⟨R, hR⟩ : ∃ R, R = sgn s (n % m) := ⟨_, rfl⟩
  rw [← hQ] at hq1
  rw [← hR] at hq2
  have HQ1 := Lib.hid hq1; have HQ2 := Lib.hid hq2; have HQ := Lib.hid hQ; have HR := Lib.hid hR; clear hq1 hq2 hQ hR
  go_enter Tryz.func92, Tryz.ntmps92
  go_wp2_with fail
  obtain ⟨W, hW, x0, Z0, A0, A1, A2, A3⟩ := boxes4 w 53 [.bool s, .slice a k c] 53 [.bool t, .slice b k' c'] 53 [.bool false, .slice none 0 0] 53 [.bool false, .slice none 0 0]
  rw [← hW]
  clear hW
  obtain ⟨k0_0, k0_1, f0_0, f0_1⟩ := box2 A0 (Ext.refl _)
  have z0 := (A0.ext (Ext.refl _)).lt
  obtain ⟨k1_0, k1_1, f1_0, f1_1⟩ := box2 A1 (Ext.refl _)
  have z1 := (A1.ext (Ext.refl _)).lt
  obtain ⟨k2_0, k2_1, f2_0, f2_1⟩ := box2 A2 (Ext.refl _)
  have z2 := (A2.ext (Ext.refl _)).lt
  obtain ⟨k3_0, k3_1, f3_0, f3_1⟩ := box2 A3 (Ext.refl _)
  have z3 := (A3.ext (Ext.refl _)).lt
  refine (r1_DivMod _ _ _ _ _ _ _ _ _ (h.ext x0) (h'.ext x0) hm b1 b2).mono ?_
  rintro e w1 ⟨a1, c1, a2, c2, rfl, hr1, hf1, hr2, hf2, hx1⟩
  obtain ⟨k0_0, k0_1, f0_0, f0_1⟩ := box2 A0 hx1
  have z0 := (A0.ext hx1).lt
  obtain ⟨k1_0, k1_1, f1_0, f1_1⟩ := box2 A1 hx1
  have z1 := (A1.ext hx1).lt
  obtain ⟨k2_0, k2_1, f2_0, f2_1⟩ := box2 A2 hx1
  have z2 := (A2.ext hx1).lt
  obtain ⟨k3_0, k3_1, f3_0, f3_1⟩ := box2 A3 hx1
  have z3 := (A3.ext hx1).lt
  have tok1 : True := trivial
  go_wp2_with fail
  go_region_held3 (fun w' => w'.cell? ⟨w.heap.size, 0, none⟩ = some (.bool s) ∧ w'.cell? ⟨w.heap.size, 1, none⟩ = some (.slice a k c) ∧ w'.cell? ⟨w.heap.size + 1, 0, none⟩ = some (.bool t) ∧ w'.cell? ⟨w.heap.size + 1, 1, none⟩ = some (.slice b k' c')) (first | exact ⟨k0_0, k0_1, k1_0, k1_1⟩ | (simp [go_sem, k0_0, k0_1, k1_0, k1_1])) (first
    | (go_at_call 140; have _t := tok1; refine (HQ1.out _ _ _ (hr1.ext (by exact (Ext.refl _).drew))).mono ?_; rintro e w2 ⟨a3, c3, rfl, hr3, hf3, hx2⟩; clear tok1 _t; obtain ⟨k0_0, k0_1, f0_0, f0_1⟩ := box2 A0 (hx1.drew.trans hx2); have z0 := (A0.ext (hx1.drew.trans hx2)).lt; obtain ⟨k1_0, k1_1, f1_0, f1_1⟩ := box2 A1 (hx1.drew.trans hx2); have z1 := (A1.ext (hx1.drew.trans hx2)).lt; obtain ⟨k2_0, k2_1, f2_0, f2_1⟩ := box2 A2 (hx1.drew.trans hx2); have z2 := (A2.ext (hx1.drew.trans hx2)).lt; obtain ⟨k3_0, k3_1, f3_0, f3_1⟩ := box2 A3 (hx1.drew.trans hx2); have z3 := (A3.ext (hx1.drew.trans hx2)).lt)
    | (go_at_call 140; refine (HQ2.out _ _ _ ((hr2.ext (by exact (Ext.refl _).drew)).ext hx2)).mono ?_; rintro e w3 ⟨a4, c4, rfl, hr4, hf4, hx3⟩; obtain ⟨k0_0, k0_1, f0_0, f0_1⟩ := box2 A0 ((hx1.drew.trans hx2).trans hx3); have z0 := (A0.ext ((hx1.drew.trans hx2).trans hx3)).lt; obtain ⟨k1_0, k1_1, f1_0, f1_1⟩ := box2 A1 ((hx1.drew.trans hx2).trans hx3); have z1 := (A1.ext ((hx1.drew.trans hx2).trans hx3)).lt; obtain ⟨k2_0, k2_1, f2_0, f2_1⟩ := box2 A2 ((hx1.drew.trans hx2).trans hx3); have z2 := (A2.ext ((hx1.drew.trans hx2).trans hx3)).lt; obtain ⟨k3_0, k3_1, f3_0, f3_1⟩ := box2 A3 ((hx1.drew.trans hx2).trans hx3); have z3 := (A3.ext ((hx1.drew.trans hx2).trans hx3)).lt))
  go_upto_region 5 with fail
  have xx : Ext W w3 := (hx1.drew.trans hx2).trans hx3
  have tt : Touch w.heap.size W.heap.size w3 ((((w3.setCell ⟨w.heap.size + 1 + 1, 0, none⟩ (.bool (decide (Q < 0)))).setCell ⟨w.heap.size + 1 + 1, 1, none⟩ (.slice a3 (len Q.natAbs) c3)).setCell ⟨w.heap.size + 1 + 1 + 1, 0, none⟩ (.bool (decide (R < 0)))).setCell ⟨w.heap.size + 1 + 1 + 1, 1, none⟩ (.slice a4 (len R.natAbs) c4)) := (Touch.two _ (by omega) (by rw [Z0.out]; omega) _ _).trans (Touch.two _ (by omega) (by rw [Z0.out]; omega) _ _)
  have D0 : Arr ((((w3.setCell ⟨w.heap.size + 1 + 1, 0, none⟩ (.bool (decide (Q < 0)))).setCell ⟨w.heap.size + 1 + 1, 1, none⟩ (.slice a3 (len Q.natAbs) c3)).setCell ⟨w.heap.size + 1 + 1 + 1, 0, none⟩ (.bool (decide (R < 0)))).setCell ⟨w.heap.size + 1 + 1 + 1, 1, none⟩ (.slice a4 (len R.natAbs) c4)) w.heap.size 53 [.bool s, .slice a k c] := ((A0.ext xx).other2 _ _ (by omega)).other2 _ _ (by omega)
  have D1 : Arr ((((w3.setCell ⟨w.heap.size + 1 + 1, 0, none⟩ (.bool (decide (Q < 0)))).setCell ⟨w.heap.size + 1 + 1, 1, none⟩ (.slice a3 (len Q.natAbs) c3)).setCell ⟨w.heap.size + 1 + 1 + 1, 0, none⟩ (.bool (decide (R < 0)))).setCell ⟨w.heap.size + 1 + 1 + 1, 1, none⟩ (.slice a4 (len R.natAbs) c4)) (w.heap.size + 1) 53 [.bool t, .slice b k' c'] := ((A1.ext xx).other2 _ _ (by omega)).other2 _ _ (by omega)
  have D2 : Arr ((((w3.setCell ⟨w.heap.size + 1 + 1, 0, none⟩ (.bool (decide (Q < 0)))).setCell ⟨w.heap.size + 1 + 1, 1, none⟩ (.slice a3 (len Q.natAbs) c3)).setCell ⟨w.heap.size + 1 + 1 + 1, 0, none⟩ (.bool (decide (R < 0)))).setCell ⟨w.heap.size + 1 + 1 + 1, 1, none⟩ (.slice a4 (len R.natAbs) c4)) (w.heap.size + 2) 53 [.bool (decide (Q < 0)), .slice a3 (len Q.natAbs) c3] := ((A2.ext xx).set2 _ _).other2 _ _ (by omega)
  have D3 : Arr ((((w3.setCell ⟨w.heap.size + 1 + 1, 0, none⟩ (.bool (decide (Q < 0)))).setCell ⟨w.heap.size + 1 + 1, 1, none⟩ (.slice a3 (len Q.natAbs) c3)).setCell ⟨w.heap.size + 1 + 1 + 1, 0, none⟩ (.bool (decide (R < 0)))).setCell ⟨w.heap.size + 1 + 1 + 1, 1, none⟩ (.slice a4 (len R.natAbs) c4)) (w.heap.size + 3) 53 [.bool (decide (R < 0)), .slice a4 (len R.natAbs) c4] := ((A3.ext xx).other2 _ _ (by omega)).set2 _ _
  have e4 := x0.touch xx tt
  have f3 := hf3.mono (hx1.drew).size
  have f4 := hf4.mono ((hx1.drew).trans hx2).size
  have r3 := (hr3.ext hx3).touch tt (Fr.out f3)
  have r4 := hr4.touch tt (Fr.out f4)
  have zw := tt.size
  generalize ((((w3.setCell ⟨w.heap.size + 1 + 1, 0, none⟩ (.bool (decide (Q < 0)))).setCell ⟨w.heap.size + 1 + 1, 1, none⟩ (.slice a3 (len Q.natAbs) c3)).setCell ⟨w.heap.size + 1 + 1 + 1, 0, none⟩ (.bool (decide (R < 0)))).setCell ⟨w.heap.size + 1 + 1 + 1, 1, none⟩ (.slice a4 (len R.natAbs) c4)) = w4 at *
  clear tt hr3 hr4 hf3 hf4 hr1 hr2 hf1 hf2 HQ1 HQ2 k0_0 k0_1 f0_0 f0_1 k1_0 k1_1 f1_0 f1_1 k2_0 k2_1 f2_0 f2_1 k3_0 k3_1 f3_0 f3_1 A0 A1 A2 A3
  have F3 : Fr w.heap.size a3 := f3.mono x0.size
  have F4 : Fr w.heap.size a4 := f4.mono x0.size
  obtain ⟨k0_0, k0_1, f0_0, f0_1⟩ := box2 D0 (Ext.refl _)
  obtain ⟨k1_0, k1_1, f1_0, f1_1⟩ := box2 D1 (Ext.refl _)
  obtain ⟨k2_0, k2_1, f2_0, f2_1⟩ := box2 D2 (Ext.refl _)
  obtain ⟨k3_0, k3_1, f3_0, f3_1⟩ := box2 D3 (Ext.refl _)
  have zW := Z0.out
  have HZW := Lib.hid zW
  by_cases hRn : R < 0
  · have hs1 : s = true := by
      cases s with
      | true => rfl
      | false => rw [HR.out, sgn_false] at hRn; omega
    subst hs1
    have hnm : 0 < n % m := by rw [HR.out, sgn_true] at hRn; omega
    obtain ⟨q1, q2⟩ := ediv_case_neg (t := t) hm hnm
    obtain ⟨M, hM⟩ : ∃ M : Int, M = (m : Int) := ⟨_, rfl⟩
    obtain ⟨R2, hR2⟩ : ∃ R2 : Int, R2 = R + M := ⟨_, rfl⟩
    have hR2v : sgn true n % sgn t m = R2 := by
      have := Nat.mod_lt n hm
      rw [q2, hR2, HR.out, hM, sgn_true]; omega
    have hR2n : decide (R2 < 0) = false := decide_eq_false (by have := Nat.mod_lt n hm; rw [hR2, HR.out, hM, sgn_true]; omega)
    have hA : ∀ V, Ext w V → Calls Tryz.prog 152 #[.agg #[.bool t, .slice b k' c']] V (NewInt M V) := by
      intro V hV; rw [hM]; exact r2_Abs V t b k' c' m (h'.ext hV)
    have hnm0 : R.natAbs = n % m := by rw [HR.out, sgn_natAbs]
    have hlr : len R.natAbs < 900000000 := by
      have e1 := len_mono (Nat.le_of_lt (Nat.mod_lt n hm))
      have e2 := h'.len_le
      rw [hnm0]; omega
    have hlM : len M.natAbs < 900000000 := by
      have e2 := h'.len_le
      rw [hM, Int.natAbs_natCast]; omega
    have hS : ∀ V a' c', Ext w4 V → Raw V a' (len M.natAbs) c' M.natAbs → Calls Tryz.prog 76 #[.agg #[.bool true, .slice a4 (len R.natAbs) c4], .agg #[.bool (decide (M < 0)), .slice a' (len M.natAbs) c']] V (NewInt R2 V) := by
      intro V a' c' hV hRw
      have := r2_Add V true (decide (M < 0)) a4 a' _ c4 _ c' _ _ (r4.ext hV) hRw (by omega) (by omega)
      rw [sgn_dec] at this
      rw [hR2]
      rw [show sgn true R.natAbs = R from by rw [← decide_eq_true hRn]; exact sgn_dec R] at this
      exact this
    have hlQ : len Q.natAbs < 900000000 := by
      have e1 : Q.natAbs = n / m := by rw [HQ.out, sgn_natAbs]
      have e2 := len_mono (Nat.div_le_self n m)
      have e3 := h.len_le
      rw [e1]; omega
    obtain ⟨ONE, hONE⟩ : ∃ O : Int, O = 1 := ⟨_, rfl⟩
    have hO : ∀ V, Calls Tryz.prog 79 #[.int .i64 1] V (NewInt ONE V) := by
      intro V; rw [hONE]; exact r2_FromInt V 1 (by decide) (by decide)
    have HA := Lib.hid hA; have HS := Lib.hid hS; have HO := Lib.hid hO
    have HR2 := Lib.hid hR2v; have HR2N := Lib.hid hR2n; have HONE := Lib.hid hONE; have HQ1 := Lib.hid q1
    clear hA hS hO q1 q2 hR2 hR2v hR2n hM hnm0 hONE hnm
    rw [decide_eq_true hRn] at *
    go_upto_region 6 with fail
    go_cut [] (fun wx => ∃ a6 c6, Arr wx w.heap.size 53 [.bool true, .slice a k c] ∧ Arr wx (w.heap.size + 1) 53 [.bool t, .slice b k' c'] ∧ Arr wx (w.heap.size + 2) 53 [.bool (decide (Q < 0)), .slice a3 (len Q.natAbs) c3] ∧ Arr wx (w.heap.size + 3) 53 [.bool (decide (R2 < 0)), .slice a6 (len R2.natAbs) c6] ∧ Raw wx a6 (len R2.natAbs) c6 R2.natAbs ∧ Raw wx a3 (len Q.natAbs) c3 Q.natAbs ∧ Fr W.heap.size a6 ∧ Ext w wx ∧ W.heap.size ≤ wx.heap.size)
    case first =>
      go_region_with (first
        | (go_at_call 152; refine (HA.out _ (by exact e4.drew)).mono ?_; rintro e w5 ⟨a5, c5, rfl, hr5, hf5, hx5⟩; obtain ⟨k0_0, k0_1, f0_0, f0_1⟩ := box2 D0 ((Ext.refl _).drew.trans hx5); obtain ⟨k1_0, k1_1, f1_0, f1_1⟩ := box2 D1 ((Ext.refl _).drew.trans hx5); obtain ⟨k2_0, k2_1, f2_0, f2_1⟩ := box2 D2 ((Ext.refl _).drew.trans hx5); obtain ⟨k3_0, k3_1, f3_0, f3_1⟩ := box2 D3 ((Ext.refl _).drew.trans hx5))
        | (go_at_call 76; refine (HS.out _ _ _ (by exact (Ext.refl _).drew.trans hx5) hr5).mono ?_; rintro e w6 ⟨a6, c6, rfl, hr6, hf6, hx6⟩; obtain ⟨k0_0, k0_1, f0_0, f0_1⟩ := box2 D0 (((Ext.refl _).drew.trans hx5).trans hx6); obtain ⟨k1_0, k1_1, f1_0, f1_1⟩ := box2 D1 (((Ext.refl _).drew.trans hx5).trans hx6); obtain ⟨k2_0, k2_1, f2_0, f2_1⟩ := box2 D2 (((Ext.refl _).drew.trans hx5).trans hx6); obtain ⟨k3_0, k3_1, f3_0, f3_1⟩ := box2 D3 (((Ext.refl _).drew.trans hx5).trans hx6)))
      all_goals go_wp2_with fail
      all_goals go_meet
      all_goals have xx6 : Ext w4 w6 := ((Ext.refl _).drew.trans hx5).trans hx6
      all_goals have zz6 : W.heap.size ≤ w4.heap.size := by rw [zw]; exact xx.size
      all_goals have f6 : Fr W.heap.size a6 := hf6.mono (Nat.le_trans zz6 (Nat.le_trans (Ext.refl _).drew.size hx5.size))
      all_goals have t6 := Touch.two (lo := w.heap.size) (hi := W.heap.size) (b := w.heap.size + 3) w6 (by omega) (by omega) (.bool (decide (R2 < 0))) (.slice a6 (len R2.natAbs) c6)
      all_goals exact ⟨a6, c6, (D0.ext xx6).other2 _ _ (by omega), (D1.ext xx6).other2 _ _ (by omega), (D2.ext xx6).other2 _ _ (by omega), (D3.ext xx6).set2 _ _, hr6.touch t6 (Fr.out f6), (r3.ext xx6).touch t6 (Fr.out f3), f6, (e4.trans xx6).of_touch t6, by rw [t6.size]; exact Nat.le_trans zz6 xx6.size⟩
    case rest =>
      obtain ⟨a6, c6, E0, E1, E2, E3, r67, r37, f67, e7, zw7⟩ := hcut
      obtain ⟨w7, rfl⟩ : ∃ w7 : World, w7 = wc := ⟨_, rfl⟩
      clear D0 D1 D2 D3 k0_0 k0_1 f0_0 f0_1 k1_0 k1_1 f1_0 f1_1 k2_0 k2_1 f2_0 f2_1 k3_0 k3_1 f3_0 f3_1 r3 r4 HS HA
      obtain ⟨k0_0, k0_1, f0_0, f0_1⟩ := box2 E0 (Ext.refl _); obtain ⟨k1_0, k1_1, f1_0, f1_1⟩ := box2 E1 (Ext.refl _); obtain ⟨k2_0, k2_1, f2_0, f2_1⟩ := box2 E2 (Ext.refl _); obtain ⟨k3_0, k3_1, f3_0, f3_1⟩ := box2 E3 (Ext.refl _)
      cases t with
      | true =>
        obtain ⟨Q2, hQ2⟩ : ∃ Q2 : Int, Q2 = Q + ONE := ⟨_, rfl⟩
        have hQ3 : ∀ V a' c', Ext w7 V → Raw V a' (len ONE.natAbs) c' ONE.natAbs → Calls Tryz.prog 76 #[.agg #[.bool (decide (Q < 0)), .slice a3 (len Q.natAbs) c3], .agg #[.bool (decide (ONE < 0)), .slice a' (len ONE.natAbs) c']] V (NewInt Q2 V) := by
          intro V a' c' hV hRw
          have := r2_Add V (decide (Q < 0)) (decide (ONE < 0)) a3 a' _ c3 _ c' _ _ (r37.ext hV) hRw (by omega) (by rw [HONE.out]; decide)
          rw [sgn_dec, sgn_dec] at this
          rw [hQ2]
          exact this
        have hQv : sgn true n / sgn true m = Q2 := by
          rw [HQ1.out, hQ2, HQ.out, HONE.out]
          simp [sgn]
        have HQ3 := Lib.hid hQ3; have HQV := Lib.hid hQv
        clear hQ3 hQv hQ2
        go_wp2_with fail
        go_region_with (first
          | (go_at_call 79; refine (HO.out _).mono ?_; rintro e w8 ⟨a8, c8, rfl, hr8, hf8, hx8⟩; obtain ⟨k0_0, k0_1, f0_0, f0_1⟩ := box2 E0 ((Ext.refl _).drew.trans hx8); obtain ⟨k1_0, k1_1, f1_0, f1_1⟩ := box2 E1 ((Ext.refl _).drew.trans hx8); obtain ⟨k2_0, k2_1, f2_0, f2_1⟩ := box2 E2 ((Ext.refl _).drew.trans hx8); obtain ⟨k3_0, k3_1, f3_0, f3_1⟩ := box2 E3 ((Ext.refl _).drew.trans hx8))
          | (go_at_call 76; refine (HQ3.out _ _ _ (by exact (Ext.refl _).drew.trans hx8) hr8).mono ?_; rintro e w9 ⟨a9, c9, rfl, hr9, hf9, hx9⟩; obtain ⟨k0_0, k0_1, f0_0, f0_1⟩ := box2 E0 (((Ext.refl _).drew.trans hx8).trans hx9); obtain ⟨k1_0, k1_1, f1_0, f1_1⟩ := box2 E1 (((Ext.refl _).drew.trans hx8).trans hx9); obtain ⟨k2_0, k2_1, f2_0, f2_1⟩ := box2 E2 (((Ext.refl _).drew.trans hx8).trans hx9); obtain ⟨k3_0, k3_1, f3_0, f3_1⟩ := box2 E3 (((Ext.refl _).drew.trans hx8).trans hx9)))
        all_goals have xx9 : Ext w7 w9 := ((Ext.refl _).drew.trans hx8).trans hx9
        all_goals have f9 : Fr W.heap.size a9 := hf9.mono (Nat.le_trans zw7 (Nat.le_trans (Ext.refl _).drew.size hx8.size))
        all_goals go_upto_region 10 with fail
        all_goals have t9 := Touch.two (lo := w.heap.size) (hi := W.heap.size) (b := w.heap.size + 2) w9 (by omega) (by omega) (.bool (decide (Q2 < 0))) (.slice a9 (len Q2.natAbs) c9)
        all_goals have G2 := (E2.ext xx9).set2 (.bool (decide (Q2 < 0))) (.slice a9 (len Q2.natAbs) c9)
        all_goals have G3 := (E3.ext xx9).other2 (b' := w.heap.size + 2) (.bool (decide (Q2 < 0))) (.slice a9 (len Q2.natAbs) c9) (by omega)
        all_goals have e10 := (e7.trans xx9).of_touch t9
        all_goals have r9 := hr9.touch t9 (Fr.out f9)
        all_goals have r6 := (r67.ext xx9).touch t9 (Fr.out f67)
        all_goals rw [show w.heap.size + 1 + 1 = w.heap.size + 2 from rfl]
        all_goals generalize (w9.setCell ⟨w.heap.size + 2, 0, none⟩ (.bool (decide (Q2 < 0)))).setCell ⟨w.heap.size + 2, 1, none⟩ (.slice a9 (len Q2.natAbs) c9) = w10 at *
        all_goals obtain ⟨k2_0, k2_1, f2_0, f2_1⟩ := box2 G2 (Ext.refl _)
        all_goals obtain ⟨k3_0, k3_1, f3_0, f3_1⟩ := box2 G3 (Ext.refl _)
        all_goals go_wp2_with fail
        all_goals go_region
        all_goals go_wp2_with fail
        all_goals rw [HQV.out, HR2.out]
        all_goals exact bodyPost_ret (v := .tuple #[.agg #[.bool (decide (Q2 < 0)), .slice a9 (len Q2.natAbs) c9], .agg #[.bool (decide (R2 < 0)), .slice a6 (len R2.natAbs) c6], .bool true]) (by simp [results, Tryz.results92, go_sem, k2_0, k2_1, k3_0, k3_1]) rfl (NewInts.of4 r9 r6 f9 f67 x0 e10 (((Touch.two _ (by omega) (by omega) _ _).trans (Touch.two _ (by omega) (by omega) _ _)).drew))
      | false =>
        obtain ⟨Q2, hQ2⟩ : ∃ Q2 : Int, Q2 = Q - ONE := ⟨_, rfl⟩
        have hQ3 : ∀ V a' c', Ext w7 V → Raw V a' (len ONE.natAbs) c' ONE.natAbs → Calls Tryz.prog 153 #[.agg #[.bool (decide (Q < 0)), .slice a3 (len Q.natAbs) c3], .agg #[.bool (decide (ONE < 0)), .slice a' (len ONE.natAbs) c']] V (NewInt Q2 V) := by
          intro V a' c' hV hRw
          have := r2_Sub V (decide (Q < 0)) (decide (ONE < 0)) a3 a' _ c3 _ c' _ _ (r37.ext hV) hRw (by omega) (by rw [HONE.out]; decide)
          rw [sgn_dec, sgn_dec] at this
          rw [hQ2]
          exact this
        have hQv : sgn true n / sgn false m = Q2 := by
          rw [HQ1.out, hQ2, HQ.out, HONE.out]
          simp [sgn]; omega
        have HQ3 := Lib.hid hQ3; have HQV := Lib.hid hQv
        clear hQ3 hQv hQ2
        go_wp2_with fail
        go_region_with (first
          | (go_at_call 79; refine (HO.out _).mono ?_; rintro e w8 ⟨a8, c8, rfl, hr8, hf8, hx8⟩; obtain ⟨k0_0, k0_1, f0_0, f0_1⟩ := box2 E0 ((Ext.refl _).drew.trans hx8); obtain ⟨k1_0, k1_1, f1_0, f1_1⟩ := box2 E1 ((Ext.refl _).drew.trans hx8); obtain ⟨k2_0, k2_1, f2_0, f2_1⟩ := box2 E2 ((Ext.refl _).drew.trans hx8); obtain ⟨k3_0, k3_1, f3_0, f3_1⟩ := box2 E3 ((Ext.refl _).drew.trans hx8))
          | (go_at_call 153; refine (HQ3.out _ _ _ (by exact (Ext.refl _).drew.trans hx8) hr8).mono ?_; rintro e w9 ⟨a9, c9, rfl, hr9, hf9, hx9⟩; obtain ⟨k0_0, k0_1, f0_0, f0_1⟩ := box2 E0 (((Ext.refl _).drew.trans hx8).trans hx9); obtain ⟨k1_0, k1_1, f1_0, f1_1⟩ := box2 E1 (((Ext.refl _).drew.trans hx8).trans hx9); obtain ⟨k2_0, k2_1, f2_0, f2_1⟩ := box2 E2 (((Ext.refl _).drew.trans hx8).trans hx9); obtain ⟨k3_0, k3_1, f3_0, f3_1⟩ := box2 E3 (((Ext.refl _).drew.trans hx8).trans hx9)))
        all_goals have xx9 : Ext w7 w9 := ((Ext.refl _).drew.trans hx8).trans hx9
        all_goals have f9 : Fr W.heap.size a9 := hf9.mono (Nat.le_trans zw7 (Nat.le_trans (Ext.refl _).drew.size hx8.size))
        all_goals go_upto_region 10 with fail
        all_goals have t9 := Touch.two (lo := w.heap.size) (hi := W.heap.size) (b := w.heap.size + 2) w9 (by omega) (by omega) (.bool (decide (Q2 < 0))) (.slice a9 (len Q2.natAbs) c9)
        all_goals have G2 := (E2.ext xx9).set2 (.bool (decide (Q2 < 0))) (.slice a9 (len Q2.natAbs) c9)
        all_goals have G3 := (E3.ext xx9).other2 (b' := w.heap.size + 2) (.bool (decide (Q2 < 0))) (.slice a9 (len Q2.natAbs) c9) (by omega)
        all_goals have e10 := (e7.trans xx9).of_touch t9
        all_goals have r9 := hr9.touch t9 (Fr.out f9)
        all_goals have r6 := (r67.ext xx9).touch t9 (Fr.out f67)
        all_goals rw [show w.heap.size + 1 + 1 = w.heap.size + 2 from rfl]
        all_goals generalize (w9.setCell ⟨w.heap.size + 2, 0, none⟩ (.bool (decide (Q2 < 0)))).setCell ⟨w.heap.size + 2, 1, none⟩ (.slice a9 (len Q2.natAbs) c9) = w10 at *
        all_goals obtain ⟨k2_0, k2_1, f2_0, f2_1⟩ := box2 G2 (Ext.refl _)
        all_goals obtain ⟨k3_0, k3_1, f3_0, f3_1⟩ := box2 G3 (Ext.refl _)
        all_goals go_wp2_with fail
        all_goals go_region
        all_goals go_wp2_with fail
        all_goals rw [HQV.out, HR2.out]
        all_goals exact bodyPost_ret (v := .tuple #[.agg #[.bool (decide (Q2 < 0)), .slice a9 (len Q2.natAbs) c9], .agg #[.bool (decide (R2 < 0)), .slice a6 (len R2.natAbs) c6], .bool true]) (by simp [results, Tryz.results92, go_sem, k2_0, k2_1, k3_0, k3_1]) rfl (NewInts.of4 r9 r6 f9 f67 x0 e10 (((Touch.two _ (by omega) (by omega) _ _).trans (Touch.two _ (by omega) (by omega) _ _)).drew))
  · have hres : sgn s n / sgn t m = Q ∧ sgn s n % sgn t m = R := by
      have hc : s = false ∨ n % m = 0 := by
        by_cases hn0 : n % m = 0
        · exact Or.inr hn0
        · cases s with
          | false => exact Or.inl rfl
          | true => exact absurd (by rw [HR.out, sgn_true]; omega) hRn
      obtain ⟨q1, q2⟩ := ediv_case (s := s) (t := t) hm hc
      refine ⟨by rw [q1, HQ.out], ?_⟩
      rw [q2, HR.out]
      rcases hc with hc | hc
      · rw [hc, sgn_false]
      · rw [hc, sgn_zero]; rfl
    have HRES := Lib.hid hres; clear hres
    have hdR : 0 ≤ R := by omega
    rw [decide_eq_false hRn] at *
    go_wp2_with fail
    go_region
    all_goals go_wp2_with fail
    all_goals rw [HRES.out.1, HRES.out.2]
    all_goals exact bodyPost_ret (v := .tuple #[.agg #[.bool (decide (Q < 0)), .slice a3 (len Q.natAbs) c3], .agg #[.bool (decide (R < 0)), .slice a4 (len R.natAbs) c4], .bool true]) (by simp [results, Tryz.results92, go_sem, k2_0, k2_1, k3_0, k3_1, hdR]) rfl (NewInts.of4 r3 r4 f3 f4 x0 e4 (((Touch.two _ (by omega) (by omega) _ _).trans (Touch.two _ (by omega) (by omega) _ _)).drew))

end Go.Proofs.YtgihpfkjpfanmaaGreat

/- Contracts of the reference's package 03: Zero, Make. -/
namespace Go.Proofs.YtgihpfkjpfanmaaGreat
open Go.RowKit

theorem raw_zero' (w : World) : Raw (w.alloc (Obj.cells #[] 122)) (some ⟨w.heap.size, 0, none⟩) 0 0 0 :=
  ⟨[], rfl, rfl, ⟨Nat.zero_le _, by omega, Nat.zero_le _, (fun e => by cases e), Small.nil, fun _ h => by cases h⟩⟩

set_option maxHeartbeats 400000 in
/-- ref03.Zero. -/
theorem r3_Zero (w : World) : Calls Tryz.prog 29 #[] w (NewRat 0 w) := by
  have r0 := raw_zero' (w.alloc (.cells #[.bool false, .slice (some ⟨w.heap.size + 1, 0, none⟩) 0 0, .slice (some ⟨w.heap.size + 1 + 1, 0, none⟩) 1 1] 55))
  have r1 := raw_one' ((w.alloc (.cells #[.bool false, .slice (some ⟨w.heap.size + 1, 0, none⟩) 0 0, .slice (some ⟨w.heap.size + 1 + 1, 0, none⟩) 1 1] 55)).alloc (Obj.cells #[] 122))
  have e0 : Ext w (w.alloc (.cells #[.bool false, .slice (some ⟨w.heap.size + 1, 0, none⟩) 0 0, .slice (some ⟨w.heap.size + 1 + 1, 0, none⟩) 1 1] 55)) := (Ext.refl _).alloc _
  rw [show (w.alloc (.cells #[.bool false, .slice (some ⟨w.heap.size + 1, 0, none⟩) 0 0, .slice (some ⟨w.heap.size + 1 + 1, 0, none⟩) 1 1] 55)).heap.size = w.heap.size + 1 from by simp] at r0
  rw [show ((w.alloc (.cells #[.bool false, .slice (some ⟨w.heap.size + 1, 0, none⟩) 0 0, .slice (some ⟨w.heap.size + 1 + 1, 0, none⟩) 1 1] 55)).alloc (Obj.cells #[] 122)).heap.size = w.heap.size + 1 + 1 from by simp] at r1
  go_enter Tryz.func29, Tryz.ntmps29
  go_wp2_with fail
  exact bodyPost_ret (v := .agg #[.bool false, .slice (some ⟨w.heap.size + 1, 0, none⟩) 0 0, .slice (some ⟨w.heap.size + 1 + 1, 0, none⟩) 1 1]) (by simp [results, Tryz.results29, go_sem]) rfl
    ⟨_, 0, _, 1, rfl, r0.ext ((Ext.refl _).alloc _), Fr.some (by omega), r1, Fr.some (by omega), (e0.alloc _).alloc _⟩

theorem sgn_lt (t : Bool) (m : Nat) (hm : 0 < m) : decide (sgn t m < 0) = t := by
  rw [sgn_neg]; simp [hm]
theorem limbs_one {l : List Nat} (hs : Small l) (hl : l.length = len (val l)) : l = [1] ↔ val l = 1 := by
  constructor
  · intro h; rw [h]; rfl
  · intro h
    have h1 : l.length = 1 := by rw [hl, h]; exact len1
    exact val_inj hs (Small.one (by decide)) (by rw [h1]; rfl) (by rw [h]; rfl)

/-- The rational number of two integers. -/
theorem make_num (s t : Bool) (n m : Nat) (hm : 0 < m) : (mkRat (sgn (s != t) n) m).num.natAbs = n / Nat.gcd n m ∧ (mkRat (sgn (s != t) n) m).den = m / Nat.gcd n m ∧ decide ((mkRat (sgn (s != t) n) m).num < 0) = decide (sgn (s != t) (n / Nat.gcd n m) < 0) := by
  have h1 := mkRat_num_natAbs (sgn (s != t) n) m hm
  have h2 := mkRat_den' (sgn (s != t) n) m hm
  have h3 := mkRat_num_neg (sgn (s != t) n) m hm
  rw [sgn_natAbs, Nat.gcd_comm] at h1 h2
  refine ⟨h1, h2, ?_⟩
  rw [h3, sgn_neg, sgn_neg]
  congr 2
  have hg : 0 < Nat.gcd n m := Nat.gcd_pos_of_pos_right _ hm
  by_cases h : 0 < n
  · have : 0 < n / Nat.gcd n m := Nat.div_pos (Nat.le_of_dvd h (Nat.gcd_dvd_left n m)) hg
    simp [h, this]
  · have : n = 0 := by omega
    subst this; simp

set_option maxHeartbeats 400000 in
/-- ref03.Make, the denominator 0. -/
theorem r3_Make_zero (w : World) (s t : Bool) (a b : Option Addr) (k c k' c' n m : Nat) (_h : Raw w a k c n) (h' : Raw w b k' c' m) (hm : m = 0) :
    Calls Tryz.prog 75 #[.agg #[.bool s, .slice a k c], .agg #[.bool t, .slice b k' c']] w (NewRat (mkRat (sgn (s != t) n) m) w) := by
  rw [hm, Rat.mkRat_zero]
  have hS : ∀ V, Ext w V → Calls Tryz.prog 93 #[.agg #[.bool t, .slice b k' c']] V fun e w' => e = .returned (.int .i64 0) ∧ Ext V w' := by
    intro V hV
    have := r2_Sign V t b k' c' m (h'.ext hV)
    rw [hm, sgn_zero] at this
    exact this
  have HS := Lib.hid hS; clear hS
  go_enter Tryz.func75, Tryz.ntmps75
  go_wp2_with fail
  obtain ⟨W, hW, x0, Z0, A0, A1, A2⟩ := boxes3 w 53 [.bool s, .slice a k c] 53 [.bool t, .slice b k' c'] 55 [.bool false, .slice none 0 0, .slice none 0 0]
  rw [← hW]
  clear hW
  obtain ⟨k0_0, k0_1, f0_0, f0_1⟩ := box2 A0 (Ext.refl _)
  have z0 := (A0.ext (Ext.refl _)).lt
  obtain ⟨k1_0, k1_1, f1_0, f1_1⟩ := box2 A1 (Ext.refl _)
  have z1 := (A1.ext (Ext.refl _)).lt
  obtain ⟨k2_0, k2_1, k2_2, f2_0, f2_1, f2_2⟩ := box3 A2 (Ext.refl _)
  have z2 := (A2.ext (Ext.refl _)).lt
  refine (HS.out _ x0).mono ?_
  rintro e w1 ⟨rfl, x1⟩
  obtain ⟨k0_0, k0_1, f0_0, f0_1⟩ := box2 A0 x1
  have z0 := (A0.ext x1).lt
  obtain ⟨k1_0, k1_1, f1_0, f1_1⟩ := box2 A1 x1
  have z1 := (A1.ext x1).lt
  obtain ⟨k2_0, k2_1, k2_2, f2_0, f2_1, f2_2⟩ := box3 A2 x1
  have z2 := (A2.ext x1).lt
  go_wp2_with fail
  refine (r3_Zero _).mono ?_
  intro e w2 hN
  obtain ⟨a2, c2, a3, c3, rfl, r2, f2, r3, f3, x2⟩ := id hN
  obtain ⟨k0_0, k0_1, f0_0, f0_1⟩ := box2 A0 (x1.trans x2)
  have z0 := (A0.ext (x1.trans x2)).lt
  obtain ⟨k1_0, k1_1, f1_0, f1_1⟩ := box2 A1 (x1.trans x2)
  have z1 := (A1.ext (x1.trans x2)).lt
  obtain ⟨k2_0, k2_1, k2_2, f2_0, f2_1, f2_2⟩ := box3 A2 (x1.trans x2)
  have z2 := (A2.ext (x1.trans x2)).lt
  go_wp2_with fail
  exact bodyPost_ret (by simp [results, Tryz.results75, go_sem, *]) rfl (NewRat.touch (hN.base x1) x0 (Touch.three _ (by omega) (by rw [Z0.out]; omega) _ _ _))

set_option maxHeartbeats 1000000 in
set_option maxRecDepth 100000 in
/-- ref03.Make, the denominator 1. -/
theorem r3_Make_one (w : World) (s : Bool) (a b : Option Addr) (k c k' c' n : Nat) (h : Raw w a k c n) (h' : Raw w b k' c' 1) :
    Calls Tryz.prog 75 #[.agg #[.bool s, .slice a k c], .agg #[.bool false, .slice b k' c']] w (NewRat (mkRat (sgn (s != false) n) 1) w) := by
  obtain ⟨m, hm1⟩ : ∃ m : Nat, m = 1 := ⟨_, rfl⟩
  have hm : 0 < m := by omega
  rw [← hm1] at h'
  obtain ⟨t, ht⟩ : ∃ t : Bool, t = false := ⟨_, rfl⟩
  rw [← ht]
  have hS : ∀ V, Ext w V → Calls Tryz.prog 93 #[.agg #[.bool t, .slice b k' c']] V fun e w' => e = .returned (.int .i64 (sgn t m).sign) ∧ Ext V w' := fun V hV => r2_Sign V t b k' c' m (h'.ext hV)
  have hsn : ((sgn t m).sign == 0) = false := by
    rw [beq_eq_false_iff_ne]
    cases t with
    | true => rw [sgn_true, Int.sign_eq_neg_one_of_neg (by omega)]; decide
    | false => rw [sgn_false, Int.sign_eq_one_of_pos (by omega)]; decide
  generalize (sgn t m).sign = sg at hS hsn
  have hN : ∀ V, Ext w V → Calls Tryz.prog 90 #[.agg #[.bool t, .slice b k' c']] V fun e w' => ∃ a1 c1, e = .returned (.agg #[.bool t, .slice a1 (len m) c1]) ∧ Raw w' a1 (len m) c1 m ∧ Fr V.heap.size a1 ∧ Ext V w' := by
    intro V hV
    refine (r2_Norm V t b k' c' m (h'.ext hV)).mono ?_
    rintro e w' ⟨a1, c1, he, hr, hf, hx⟩
    rw [sgn_natAbs] at he hr
    rw [sgn_lt t m hm] at he
    exact ⟨a1, c1, he, hr, hf, hx⟩
  have HS := Lib.hid hS; have HN := Lib.hid hN; clear hS hN
  have hNn : ∀ V, Ext w V → Calls Tryz.prog 90 #[.agg #[.bool s, .slice a k c]] V (NewInt (sgn s n) V) := fun V hV => r2_Norm V s a k c n (h.ext hV)
  obtain ⟨Z, hZ⟩ : ∃ Z, Z = sgn s n := ⟨_, rfl⟩
  rw [← hZ] at hNn
  obtain ⟨q, hq⟩ : ∃ q : Rat, q = mkRat (sgn (s != t) n) 1 := ⟨_, rfl⟩
  have hq1 : q.num = Z ∧ q.den = 1 := by
    have e : q = ((sgn s n : Int) : Rat) := by rw [hq, ht, Bool.bne_false, Rat.mkRat_one]
    rw [e, hZ]; exact ⟨rfl, rfl⟩
  rw [← hq]
  have HNN := Lib.hid hNn; have HQ := Lib.hid hq1; have HM1 := Lib.hid hm1
  clear hNn hq1 hq hZ hm1
  subst ht
  go_enter Tryz.func75, Tryz.ntmps75
  go_wp2_with fail
  obtain ⟨W, hW, x0, Z0, A0, A1, A2⟩ := boxes3 w 53 [.bool s, .slice a k c] 53 [.bool false, .slice b k' c'] 55 [.bool false, .slice none 0 0, .slice none 0 0]
  rw [← hW]
  clear hW
  obtain ⟨k0_0, k0_1, f0_0, f0_1⟩ := box2 A0 (Ext.refl _)
  have z0 := (A0.ext (Ext.refl _)).lt
  obtain ⟨k1_0, k1_1, f1_0, f1_1⟩ := box2 A1 (Ext.refl _)
  have z1 := (A1.ext (Ext.refl _)).lt
  obtain ⟨k2_0, k2_1, k2_2, f2_0, f2_1, f2_2⟩ := box3 A2 (Ext.refl _)
  have z2 := (A2.ext (Ext.refl _)).lt
  refine (HS.out _ x0).mono ?_
  rintro e w1 ⟨rfl, x1⟩
  obtain ⟨k0_0, k0_1, f0_0, f0_1⟩ := box2 A0 x1
  have z0 := (A0.ext x1).lt
  obtain ⟨k1_0, k1_1, f1_0, f1_1⟩ := box2 A1 x1
  have z1 := (A1.ext x1).lt
  obtain ⟨k2_0, k2_1, k2_2, f2_0, f2_1, f2_2⟩ := box3 A2 x1
  have z2 := (A2.ext x1).lt
  go_wp2_with fail
  refine (HN.out _ (x0.trans x1)).mono ?_
  rintro e w2 ⟨a1, c1, rfl, r1, f1, x2⟩
  obtain ⟨k0_0, k0_1, f0_0, f0_1⟩ := box2 A0 (x1.trans x2)
  have z0 := (A0.ext (x1.trans x2)).lt
  obtain ⟨k1_0, k1_1, f1_0, f1_1⟩ := box2 A1 (x1.trans x2)
  have z1 := (A1.ext (x1.trans x2)).lt
  obtain ⟨k2_0, k2_1, k2_2, f2_0, f2_1, f2_2⟩ := box3 A2 (x1.trans x2)
  have z2 := (A2.ext (x1.trans x2)).lt
  go_upto_region 4 with fail
  obtain ⟨W2, hW2, y2, ZZ2, P0⟩ := boxes1 w2 53 [.bool false, .slice a1 (len m) c1]
  rw [← hW2]
  clear hW2
  have g2 : Ext W W2 := (x1.trans x2).trans y2
  obtain ⟨k0_0, k0_1, f0_0, f0_1⟩ := box2 A0 g2
  have z0 := (A0.ext g2).lt
  obtain ⟨k1_0, k1_1, f1_0, f1_1⟩ := box2 A1 g2
  have z1 := (A1.ext g2).lt
  obtain ⟨k2_0, k2_1, k2_2, f2_0, f2_1, f2_2⟩ := box3 A2 g2
  have z2 := (A2.ext g2).lt
  obtain ⟨p0_0, p0_1, q0_0, q0_1⟩ := box2 P0 (Ext.refl _)
  go_wp2_with fail
  have o1 := raw_one' W2
  have y3 : Ext W2 (W2.alloc (Obj.cells #[.int .u32 1] 122)) := (Ext.refl _).alloc _
  obtain ⟨l, hl, hv, hA⟩ := (r1.ext y2).ext y3
  obtain ⟨l', hl', hv', hA'⟩ := o1
  have hEq := r1_Equal _ _ _ _ _ l l' hA hA'
  have el' : l' = [1] := val_inj hA'.small (Small.one (by decide)) (by rw [hl']; rfl) (by rw [hv']; rfl)
  have el : l = [1] := (limbs_one hA.small (by rw [hl, hv])).2 (by rw [hv, HM1.out])
  rw [decide_eq_true (show l = l' by rw [el, el']), hl, hl'] at hEq
  clear hA hA' hl hl' hv hv' el el'
  refine hEq.mono ?_
  rintro e w3 ⟨rfl, hq3⟩
  clear hEq
  have g3 : Ext W w3 := (g2.trans y3).trans hq3.ext
  have v3 : Ext W2 w3 := y3.trans hq3.ext
  obtain ⟨k0_0, k0_1, f0_0, f0_1⟩ := box2 A0 g3
  have z0 := (A0.ext g3).lt
  obtain ⟨k1_0, k1_1, f1_0, f1_1⟩ := box2 A1 g3
  have z1 := (A1.ext g3).lt
  obtain ⟨k2_0, k2_1, k2_2, f2_0, f2_1, f2_2⟩ := box3 A2 g3
  have z2 := (A2.ext g3).lt
  obtain ⟨p0_0, p0_1, q0_0, q0_1⟩ := box2 P0 v3
  go_wp2_with fail
  go_region_held3 (fun w' => w'.cell? ⟨w.heap.size, 0, none⟩ = some (.bool s) ∧ w'.cell? ⟨w.heap.size, 1, none⟩ = some (.slice a k c) ∧ w'.cell? ⟨w2.heap.size, 0, none⟩ = some (.bool false) ∧ w'.cell? ⟨w2.heap.size, 1, none⟩ = some (.slice a1 (len m) c1)) (first | exact ⟨k0_0, k0_1, p0_0, p0_1⟩ | (simp [go_sem, k0_0, k0_1, p0_0, p0_1])) (first
    | (go_at_call 90; refine (HNN.out _ (by exact x0.trans g3.drew)).mono ?_; rintro e w4 ⟨a4, c4, rfl, r4, f4, x4⟩; obtain ⟨k0_0, k0_1, f0_0, f0_1⟩ := box2 A0 (g3.drew.trans x4); have z0 := (A0.ext (g3.drew.trans x4)).lt; obtain ⟨k1_0, k1_1, f1_0, f1_1⟩ := box2 A1 (g3.drew.trans x4); have z1 := (A1.ext (g3.drew.trans x4)).lt; obtain ⟨k2_0, k2_1, k2_2, f2_0, f2_1, f2_2⟩ := box3 A2 (g3.drew.trans x4); have z2 := (A2.ext (g3.drew.trans x4)).lt; obtain ⟨p0_0, p0_1, q0_0, q0_1⟩ := box2 P0 (v3.drew.trans x4)))
  go_wp2_with fail
  have zz := Z0.out
  have rN : Raw w4 a4 (len q.num.natAbs) c4 q.num.natAbs := by rw [HQ.out.1]; exact r4
  have rD : Raw w4 a1 (len q.den) c1 q.den := by rw [HQ.out.2, ← HM1.out]; exact (r1.ext y2).ext (v3.drew.trans x4)
  have fin : NewRat q W (.returned (.agg #[.bool (decide (q.num < 0)), .slice a4 (len q.num.natAbs) c4, .slice a1 (len q.den) c1])) w4 := ⟨_, _, _, _, rfl, rN, f4.mono g3.drew.size, rD, f1.mono x1.size, g3.drew.trans x4⟩
  rw [HQ.out.1, HQ.out.2, ← HM1.out] at fin
  exact bodyPost_ret (by simp [results, Tryz.results75, go_sem, k2_0, k2_1, k2_2]) rfl (NewRat.touch fin x0 (Touch.three _ (by omega) (by omega) _ _ _))

set_option maxHeartbeats 2000000 in
set_option maxRecDepth 100000 in
/-- ref03.Make in general. -/
theorem r3_Make_false (w : World) (s t : Bool) (a b : Option Addr) (k c k' c' n m : Nat) (h : Raw w a k c n) (h' : Raw w b k' c' m) (ht : t = false) (hm : 0 < m) (b1 : k < 900000000) (b2 : k' < 900000000) (hm1 : m ≠ 1) :
    Calls Tryz.prog 75 #[.agg #[.bool s, .slice a k c], .agg #[.bool t, .slice b k' c']] w (NewRat (mkRat (sgn (s != t) n) m) w) := by
  have hS : ∀ V, Ext w V → Calls Tryz.prog 93 #[.agg #[.bool t, .slice b k' c']] V fun e w' => e = .returned (.int .i64 (sgn t m).sign) ∧ Ext V w' := fun V hV => r2_Sign V t b k' c' m (h'.ext hV)
  have hsn : ((sgn t m).sign == 0) = false := by
    rw [beq_eq_false_iff_ne]
    cases t with
    | true => rw [sgn_true, Int.sign_eq_neg_one_of_neg (by omega)]; decide
    | false => rw [sgn_false, Int.sign_eq_one_of_pos (by omega)]; decide
  generalize (sgn t m).sign = sg at hS hsn
  have hN : ∀ V, Ext w V → Calls Tryz.prog 90 #[.agg #[.bool t, .slice b k' c']] V fun e w' => ∃ a1 c1, e = .returned (.agg #[.bool t, .slice a1 (len m) c1]) ∧ Raw w' a1 (len m) c1 m ∧ Fr V.heap.size a1 ∧ Ext V w' := by
    intro V hV
    refine (r2_Norm V t b k' c' m (h'.ext hV)).mono ?_
    rintro e w' ⟨a1, c1, he, hr, hf, hx⟩
    rw [sgn_natAbs] at he hr
    rw [sgn_lt t m hm] at he
    exact ⟨a1, c1, he, hr, hf, hx⟩
  have HS := Lib.hid hS; have HN := Lib.hid hN; clear hS hN
  have hln := h.len_le
  have hlm := h'.len_le
  have hg0 : 0 < Nat.gcd n m := Nat.gcd_pos_of_pos_right _ hm
  have hgl : len (Nat.gcd n m) ≤ len m := len_mono (Nat.le_of_dvd hm (Nat.gcd_dvd_right n m))
  have hmg : 0 < m / Nat.gcd n m := Nat.div_pos (Nat.le_of_dvd hm (Nat.gcd_dvd_right n m)) hg0
  have hG : ∀ V, Ext w V → Calls Tryz.prog 139 #[.agg #[.bool s, .slice a k c], .agg #[.bool t, .slice b k' c']] V fun e w' => ∃ a1 c1, e = .returned (.agg #[.bool false, .slice a1 (len (Nat.gcd n m)) c1]) ∧ Raw w' a1 (len (Nat.gcd n m)) c1 (Nat.gcd n m) ∧ Ext V w' := by
    intro V hV
    refine (r2_GCD V s t a b k c k' c' n m (h.ext hV) (h'.ext hV) (by omega) (by omega)).mono ?_
    rintro e w' ⟨a1, c1, he, hr, hf, hx⟩
    rw [Int.natAbs_natCast] at he hr
    rw [decide_eq_false (by omega)] at he
    exact ⟨a1, c1, he, hr, hx⟩
  have hD : ∀ (V : World) (u : Bool) (a' : Option Addr) (j d x : Nat) (a2 : Option Addr) (c2 : Nat), Raw V a' j d x → j < 900000000 → x % Nat.gcd n m = 0 → Raw V a2 (len (Nat.gcd n m)) c2 (Nat.gcd n m) → Calls Tryz.prog 92 #[.agg #[.bool u, .slice a' j d], .agg #[.bool false, .slice a2 (len (Nat.gcd n m)) c2]] V fun e w' => ∃ a3 c3 a4 c4, e = .returned (.tuple #[.agg #[.bool (decide (sgn u (x / Nat.gcd n m) < 0)), .slice a3 (len (x / Nat.gcd n m)) c3], .agg #[.bool false, .slice a4 0 c4], .bool true]) ∧ Raw w' a3 (len (x / Nat.gcd n m)) c3 (x / Nat.gcd n m) ∧ Fr V.heap.size a3 ∧ Ext V w' := by
    intro V u a' j d x a2 c2 hR hj hx0 hR2
    have := r2_DivMod V u false a' a2 j d _ c2 x _ hR hR2 hg0 hj (by omega)
    obtain ⟨q1, q2⟩ := ediv_case (s := u) (t := false) (n := x) hg0 (Or.inr hx0)
    rw [q1, q2, hx0, Bool.bne_false] at this
    refine this.mono ?_
    rintro e w' ⟨a3, c3, a4, c4, he, hr3, hf3, hr4, hf4, hx⟩
    rw [sgn_natAbs] at he hr3
    exact ⟨a3, c3, a4, c4, he, hr3, hf3, hx⟩
  have hx1 : n % Nat.gcd n m = 0 := Nat.mod_eq_zero_of_dvd (Nat.gcd_dvd_left n m)
  have hx2 : m % Nat.gcd n m = 0 := Nat.mod_eq_zero_of_dvd (Nat.gcd_dvd_right n m)
  obtain ⟨m1, m2, m3⟩ := make_num s t n m hm
  obtain ⟨q, hq⟩ : ∃ q : Rat, q = mkRat (sgn (s != t) n) m := ⟨_, rfl⟩
  rw [← hq] at m1 m2 m3 ⊢
  have hdt := sgn_lt t _ hmg
  have hD2 : ∀ (V : World) (a2 : Option Addr) (c2 : Nat), Ext w V → Raw V a2 (len (Nat.gcd n m)) c2 (Nat.gcd n m) → Calls Tryz.prog 92 #[.agg #[.bool t, .slice b k' c'], .agg #[.bool false, .slice a2 (len (Nat.gcd n m)) c2]] V fun e w' => ∃ a3 c3 a4 c4, e = .returned (.tuple #[.agg #[.bool t, .slice a3 (len (m / Nat.gcd n m)) c3], .agg #[.bool false, .slice a4 0 c4], .bool true]) ∧ Raw w' a3 (len (m / Nat.gcd n m)) c3 (m / Nat.gcd n m) ∧ Fr V.heap.size a3 ∧ Ext V w' := by
    intro V a2 c2 hV hR2
    have := hD V t b k' c' m a2 c2 (h'.ext hV) b2 hx2 hR2
    rw [hdt] at this
    exact this
  have hD1 : ∀ (V : World) (a2 : Option Addr) (c2 : Nat), Ext w V → Raw V a2 (len (Nat.gcd n m)) c2 (Nat.gcd n m) → Calls Tryz.prog 92 #[.agg #[.bool s, .slice a k c], .agg #[.bool false, .slice a2 (len (Nat.gcd n m)) c2]] V fun e w' => ∃ a3 c3 a4 c4, e = .returned (.tuple #[.agg #[.bool (decide (sgn s (n / Nat.gcd n m) < 0)), .slice a3 (len (n / Nat.gcd n m)) c3], .agg #[.bool false, .slice a4 0 c4], .bool true]) ∧ Raw w' a3 (len (n / Nat.gcd n m)) c3 (n / Nat.gcd n m) ∧ Fr V.heap.size a3 ∧ Ext V w' := fun V a2 c2 hV hR2 => hD V s a k c n a2 c2 (h.ext hV) b1 hx1 hR2
  have hl1 := len_mono (Nat.div_le_self n (Nat.gcd n m))
  have hl2 := len_mono (Nat.div_le_self m (Nat.gcd n m))
  generalize n / Nat.gcd n m = N at *
  generalize m / Nat.gcd n m = D at *
  generalize Nat.gcd n m = G at *
  obtain ⟨sN, hsN⟩ : ∃ sN, sN = decide (sgn s N < 0) := ⟨_, rfl⟩
  rw [← hsN] at hD1
  have HG := Lib.hid hG; have HD1 := Lib.hid hD1; have HD2 := Lib.hid hD2
  have M1 := Lib.hid m1; have M2 := Lib.hid m2; have M3 := Lib.hid m3; have HSN := Lib.hid hsN; have HQ := Lib.hid hq
  clear hG hD hD1 hD2 hx1 hx2 m1 m2 m3 hq hdt hsN
  subst ht
  go_enter Tryz.func75, Tryz.ntmps75
  go_wp2_with fail
  obtain ⟨W, hW, x0, Z0, A0, A1, A2⟩ := boxes3 w 53 [.bool s, .slice a k c] 53 [.bool false, .slice b k' c'] 55 [.bool false, .slice none 0 0, .slice none 0 0]
  rw [← hW]
  clear hW
  obtain ⟨k0_0, k0_1, f0_0, f0_1⟩ := box2 A0 (Ext.refl _)
  have z0 := (A0.ext (Ext.refl _)).lt
  obtain ⟨k1_0, k1_1, f1_0, f1_1⟩ := box2 A1 (Ext.refl _)
  have z1 := (A1.ext (Ext.refl _)).lt
  obtain ⟨k2_0, k2_1, k2_2, f2_0, f2_1, f2_2⟩ := box3 A2 (Ext.refl _)
  have z2 := (A2.ext (Ext.refl _)).lt
  refine (HS.out _ x0).mono ?_
  rintro e w1 ⟨rfl, x1⟩
  obtain ⟨k0_0, k0_1, f0_0, f0_1⟩ := box2 A0 x1
  have z0 := (A0.ext x1).lt
  obtain ⟨k1_0, k1_1, f1_0, f1_1⟩ := box2 A1 x1
  have z1 := (A1.ext x1).lt
  obtain ⟨k2_0, k2_1, k2_2, f2_0, f2_1, f2_2⟩ := box3 A2 x1
  have z2 := (A2.ext x1).lt
  go_wp2_with fail
  refine (HN.out _ (x0.trans x1)).mono ?_
  rintro e w2 ⟨a1, c1, rfl, r1, f1, x2⟩
  obtain ⟨k0_0, k0_1, f0_0, f0_1⟩ := box2 A0 (x1.trans x2)
  have z0 := (A0.ext (x1.trans x2)).lt
  obtain ⟨k1_0, k1_1, f1_0, f1_1⟩ := box2 A1 (x1.trans x2)
  have z1 := (A1.ext (x1.trans x2)).lt
  obtain ⟨k2_0, k2_1, k2_2, f2_0, f2_1, f2_2⟩ := box3 A2 (x1.trans x2)
  have z2 := (A2.ext (x1.trans x2)).lt
  go_upto_region 4 with fail
  obtain ⟨W2, hW2, y2, ZZ2, P0⟩ := boxes1 w2 53 [.bool false, .slice a1 (len m) c1]
  rw [← hW2]
  clear hW2
  have g2 : Ext W W2 := (x1.trans x2).trans y2
  obtain ⟨k0_0, k0_1, f0_0, f0_1⟩ := box2 A0 g2
  have z0 := (A0.ext g2).lt
  obtain ⟨k1_0, k1_1, f1_0, f1_1⟩ := box2 A1 g2
  have z1 := (A1.ext g2).lt
  obtain ⟨k2_0, k2_1, k2_2, f2_0, f2_1, f2_2⟩ := box3 A2 g2
  have z2 := (A2.ext g2).lt
  obtain ⟨p0_0, p0_1, q0_0, q0_1⟩ := box2 P0 (Ext.refl _)
  go_wp2_with fail
  have o1 := raw_one' W2
  have y3 : Ext W2 (W2.alloc (Obj.cells #[.int .u32 1] 122)) := (Ext.refl _).alloc _
  obtain ⟨l, hl, hv, hA⟩ := (r1.ext y2).ext y3
  obtain ⟨l', hl', hv', hA'⟩ := o1
  have hEq := r1_Equal _ _ _ _ _ l l' hA hA'
  have el' : l' = [1] := val_inj hA'.small (Small.one (by decide)) (by rw [hl']; rfl) (by rw [hv']; rfl)
  have el : ¬ l = l' := by
    intro h5
    rw [el'] at h5
    have := (limbs_one hA.small (by rw [hl, hv])).1 h5
    rw [hv] at this
    exact hm1 this
  rw [decide_eq_false el, hl, hl'] at hEq
  clear hA hA' hl hl' hv hv' el el'
  refine hEq.mono ?_
  rintro e w3 ⟨rfl, hq3⟩
  clear hEq
  have g3 : Ext W w3 := (g2.trans y3).trans hq3.ext
  obtain ⟨k0_0, k0_1, f0_0, f0_1⟩ := box2 A0 g3
  have z0 := (A0.ext g3).lt
  obtain ⟨k1_0, k1_1, f1_0, f1_1⟩ := box2 A1 g3
  have z1 := (A1.ext g3).lt
  obtain ⟨k2_0, k2_1, k2_2, f2_0, f2_1, f2_2⟩ := box3 A2 g3
  have z2 := (A2.ext g3).lt
  go_wp2_with fail
  refine (HG.out _ (x0.trans g3)).mono ?_
  rintro e w4 ⟨a4, c4, rfl, r4, x4⟩
  go_upto_region 7 with fail
  obtain ⟨W4, hW4, y4, ZZ4, P1⟩ := boxes1 w4 53 [.bool false, .slice a4 (len G) c4]
  rw [← hW4]
  clear hW4
  have g4 : Ext W W4 := (g3.trans x4).trans y4
  obtain ⟨k0_0, k0_1, f0_0, f0_1⟩ := box2 A0 g4
  have z0 := (A0.ext g4).lt
  obtain ⟨k1_0, k1_1, f1_0, f1_1⟩ := box2 A1 g4
  have z1 := (A1.ext g4).lt
  obtain ⟨k2_0, k2_1, k2_2, f2_0, f2_1, f2_2⟩ := box3 A2 g4
  have z2 := (A2.ext g4).lt
  obtain ⟨p1_0, p1_1, q1_0, q1_1⟩ := box2 P1 (Ext.refl _)
  go_wp2_with fail
  refine (HD1.out _ _ _ (x0.trans g4) (r4.ext y4)).mono ?_
  rintro e w5 ⟨a5, c5, a6, c6, rfl, r5, f5, x5⟩
  go_upto_region 8 with fail
  obtain ⟨W5, hW5, y5, ZZ5, P2, P3⟩ := boxes2 w5 53 [.bool sN, .slice a5 (len N) c5] 53 [.bool false, .slice a6 0 c6]
  rw [← hW5]
  clear hW5
  have g5 : Ext W W5 := (g4.trans x5).trans y5
  obtain ⟨k0_0, k0_1, f0_0, f0_1⟩ := box2 A0 g5
  have z0 := (A0.ext g5).lt
  obtain ⟨k1_0, k1_1, f1_0, f1_1⟩ := box2 A1 g5
  have z1 := (A1.ext g5).lt
  obtain ⟨k2_0, k2_1, k2_2, f2_0, f2_1, f2_2⟩ := box3 A2 g5
  have z2 := (A2.ext g5).lt
  obtain ⟨p1_0, p1_1, q1_0, q1_1⟩ := box2 P1 (x5.trans y5)
  obtain ⟨p2_0, p2_1, q2_0, q2_1⟩ := box2 P2 (Ext.refl _)
  go_wp2_with fail
  refine (HD2.out _ _ _ (x0.trans g5) (((r4.ext y4).ext x5).ext y5)).mono ?_
  rintro e w6 ⟨a7, c7, a8, c8, rfl, r7, f7, x6⟩
  go_upto_region 9 with fail
  obtain ⟨W6, hW6, y6, ZZ6, P4, P5⟩ := boxes2 w6 53 [.bool false, .slice a7 (len D) c7] 53 [.bool false, .slice a8 0 c8]
  rw [← hW6]
  clear hW6
  have g6 : Ext W W6 := (g5.trans x6).trans y6
  have v6 : Ext W5 W6 := x6.trans y6
  obtain ⟨k0_0, k0_1, f0_0, f0_1⟩ := box2 A0 g6
  have z0 := (A0.ext g6).lt
  obtain ⟨k1_0, k1_1, f1_0, f1_1⟩ := box2 A1 g6
  have z1 := (A1.ext g6).lt
  obtain ⟨k2_0, k2_1, k2_2, f2_0, f2_1, f2_2⟩ := box3 A2 g6
  have z2 := (A2.ext g6).lt
  obtain ⟨p2_0, p2_1, q2_0, q2_1⟩ := box2 P2 v6
  obtain ⟨p4_0, p4_1, q4_0, q4_1⟩ := box2 P4 (Ext.refl _)
  have zz := Z0.out
  go_wp2_with fail
  have rN : Raw W6 a5 (len q.num.natAbs) c5 q.num.natAbs := by rw [M1.out]; exact (r5.ext y5).ext v6
  have rD : Raw W6 a7 (len q.den) c7 q.den := by rw [M2.out]; exact r7.ext y6
  have fin : NewRat q W (.returned (.agg #[.bool (decide (q.num < 0)), .slice a5 (len q.num.natAbs) c5, .slice a7 (len q.den) c7])) W6 := ⟨_, _, _, _, rfl, rN, f5.mono g4.size, rD, f7.mono g5.size, g6⟩
  rw [M1.out, M2.out, M3.out, Bool.bne_false, ← HSN.out] at fin
  exact bodyPost_ret (by simp [results, Tryz.results75, go_sem, k2_0, k2_1, k2_2]) rfl (NewRat.touch fin x0 (Touch.three _ (by omega) (by omega) _ _ _))

set_option maxHeartbeats 2000000 in
set_option maxRecDepth 100000 in
/-- ref03.Make in general. -/
theorem r3_Make_true (w : World) (s t : Bool) (a b : Option Addr) (k c k' c' n m : Nat) (h : Raw w a k c n) (h' : Raw w b k' c' m) (ht : t = true) (hm : 0 < m) (b1 : k < 900000000) (b2 : k' < 900000000) :
    Calls Tryz.prog 75 #[.agg #[.bool s, .slice a k c], .agg #[.bool t, .slice b k' c']] w (NewRat (mkRat (sgn (s != t) n) m) w) := by
  have hS : ∀ V, Ext w V → Calls Tryz.prog 93 #[.agg #[.bool t, .slice b k' c']] V fun e w' => e = .returned (.int .i64 (sgn t m).sign) ∧ Ext V w' := fun V hV => r2_Sign V t b k' c' m (h'.ext hV)
  have hsn : ((sgn t m).sign == 0) = false := by
    rw [beq_eq_false_iff_ne]
    cases t with
    | true => rw [sgn_true, Int.sign_eq_neg_one_of_neg (by omega)]; decide
    | false => rw [sgn_false, Int.sign_eq_one_of_pos (by omega)]; decide
  generalize (sgn t m).sign = sg at hS hsn
  have hN : ∀ V, Ext w V → Calls Tryz.prog 90 #[.agg #[.bool t, .slice b k' c']] V fun e w' => ∃ a1 c1, e = .returned (.agg #[.bool t, .slice a1 (len m) c1]) ∧ Raw w' a1 (len m) c1 m ∧ Fr V.heap.size a1 ∧ Ext V w' := by
    intro V hV
    refine (r2_Norm V t b k' c' m (h'.ext hV)).mono ?_
    rintro e w' ⟨a1, c1, he, hr, hf, hx⟩
    rw [sgn_natAbs] at he hr
    rw [sgn_lt t m hm] at he
    exact ⟨a1, c1, he, hr, hf, hx⟩
  have HS := Lib.hid hS; have HN := Lib.hid hN; clear hS hN
  have hln := h.len_le
  have hlm := h'.len_le
  have hg0 : 0 < Nat.gcd n m := Nat.gcd_pos_of_pos_right _ hm
  have hgl : len (Nat.gcd n m) ≤ len m := len_mono (Nat.le_of_dvd hm (Nat.gcd_dvd_right n m))
  have hmg : 0 < m / Nat.gcd n m := Nat.div_pos (Nat.le_of_dvd hm (Nat.gcd_dvd_right n m)) hg0
  have hG : ∀ V, Ext w V → Calls Tryz.prog 139 #[.agg #[.bool s, .slice a k c], .agg #[.bool t, .slice b k' c']] V fun e w' => ∃ a1 c1, e = .returned (.agg #[.bool false, .slice a1 (len (Nat.gcd n m)) c1]) ∧ Raw w' a1 (len (Nat.gcd n m)) c1 (Nat.gcd n m) ∧ Ext V w' := by
    intro V hV
    refine (r2_GCD V s t a b k c k' c' n m (h.ext hV) (h'.ext hV) (by omega) (by omega)).mono ?_
    rintro e w' ⟨a1, c1, he, hr, hf, hx⟩
    rw [Int.natAbs_natCast] at he hr
    rw [decide_eq_false (by omega)] at he
    exact ⟨a1, c1, he, hr, hx⟩
  have hD : ∀ (V : World) (u : Bool) (a' : Option Addr) (j d x : Nat) (a2 : Option Addr) (c2 : Nat), Raw V a' j d x → j < 900000000 → x % Nat.gcd n m = 0 → Raw V a2 (len (Nat.gcd n m)) c2 (Nat.gcd n m) → Calls Tryz.prog 92 #[.agg #[.bool u, .slice a' j d], .agg #[.bool false, .slice a2 (len (Nat.gcd n m)) c2]] V fun e w' => ∃ a3 c3 a4 c4, e = .returned (.tuple #[.agg #[.bool (decide (sgn u (x / Nat.gcd n m) < 0)), .slice a3 (len (x / Nat.gcd n m)) c3], .agg #[.bool false, .slice a4 0 c4], .bool true]) ∧ Raw w' a3 (len (x / Nat.gcd n m)) c3 (x / Nat.gcd n m) ∧ Fr V.heap.size a3 ∧ Ext V w' := by
    intro V u a' j d x a2 c2 hR hj hx0 hR2
    have := r2_DivMod V u false a' a2 j d _ c2 x _ hR hR2 hg0 hj (by omega)
    obtain ⟨q1, q2⟩ := ediv_case (s := u) (t := false) (n := x) hg0 (Or.inr hx0)
    rw [q1, q2, hx0, Bool.bne_false] at this
    refine this.mono ?_
    rintro e w' ⟨a3, c3, a4, c4, he, hr3, hf3, hr4, hf4, hx⟩
    rw [sgn_natAbs] at he hr3
    exact ⟨a3, c3, a4, c4, he, hr3, hf3, hx⟩
  have hx1 : n % Nat.gcd n m = 0 := Nat.mod_eq_zero_of_dvd (Nat.gcd_dvd_left n m)
  have hx2 : m % Nat.gcd n m = 0 := Nat.mod_eq_zero_of_dvd (Nat.gcd_dvd_right n m)
  obtain ⟨m1, m2, m3⟩ := make_num s t n m hm
  obtain ⟨q, hq⟩ : ∃ q : Rat, q = mkRat (sgn (s != t) n) m := ⟨_, rfl⟩
  rw [← hq] at m1 m2 m3 ⊢
  have hdt := sgn_lt t _ hmg
  have hD2 : ∀ (V : World) (a2 : Option Addr) (c2 : Nat), Ext w V → Raw V a2 (len (Nat.gcd n m)) c2 (Nat.gcd n m) → Calls Tryz.prog 92 #[.agg #[.bool t, .slice b k' c'], .agg #[.bool false, .slice a2 (len (Nat.gcd n m)) c2]] V fun e w' => ∃ a3 c3 a4 c4, e = .returned (.tuple #[.agg #[.bool t, .slice a3 (len (m / Nat.gcd n m)) c3], .agg #[.bool false, .slice a4 0 c4], .bool true]) ∧ Raw w' a3 (len (m / Nat.gcd n m)) c3 (m / Nat.gcd n m) ∧ Fr V.heap.size a3 ∧ Ext V w' := by
    intro V a2 c2 hV hR2
    have := hD V t b k' c' m a2 c2 (h'.ext hV) b2 hx2 hR2
    rw [hdt] at this
    exact this
  have hD1 : ∀ (V : World) (a2 : Option Addr) (c2 : Nat), Ext w V → Raw V a2 (len (Nat.gcd n m)) c2 (Nat.gcd n m) → Calls Tryz.prog 92 #[.agg #[.bool s, .slice a k c], .agg #[.bool false, .slice a2 (len (Nat.gcd n m)) c2]] V fun e w' => ∃ a3 c3 a4 c4, e = .returned (.tuple #[.agg #[.bool (decide (sgn s (n / Nat.gcd n m) < 0)), .slice a3 (len (n / Nat.gcd n m)) c3], .agg #[.bool false, .slice a4 0 c4], .bool true]) ∧ Raw w' a3 (len (n / Nat.gcd n m)) c3 (n / Nat.gcd n m) ∧ Fr V.heap.size a3 ∧ Ext V w' := fun V a2 c2 hV hR2 => hD V s a k c n a2 c2 (h.ext hV) b1 hx1 hR2
  have hl1 := len_mono (Nat.div_le_self n (Nat.gcd n m))
  have hl2 := len_mono (Nat.div_le_self m (Nat.gcd n m))
  generalize n / Nat.gcd n m = N at *
  generalize m / Nat.gcd n m = D at *
  generalize Nat.gcd n m = G at *
  obtain ⟨sN, hsN⟩ : ∃ sN, sN = decide (sgn s N < 0) := ⟨_, rfl⟩
  rw [← hsN] at hD1
  have HG := Lib.hid hG; have HD1 := Lib.hid hD1; have HD2 := Lib.hid hD2
  have M1 := Lib.hid m1; have M2 := Lib.hid m2; have M3 := Lib.hid m3; have HSN := Lib.hid hsN; have HQ := Lib.hid hq
  clear hG hD hD1 hD2 hx1 hx2 m1 m2 m3 hq hdt hsN
  subst ht
  go_enter Tryz.func75, Tryz.ntmps75
  go_wp2_with fail
  obtain ⟨W, hW, x0, Z0, A0, A1, A2⟩ := boxes3 w 53 [.bool s, .slice a k c] 53 [.bool true, .slice b k' c'] 55 [.bool false, .slice none 0 0, .slice none 0 0]
  rw [← hW]
  clear hW
  obtain ⟨k0_0, k0_1, f0_0, f0_1⟩ := box2 A0 (Ext.refl _)
  have z0 := (A0.ext (Ext.refl _)).lt
  obtain ⟨k1_0, k1_1, f1_0, f1_1⟩ := box2 A1 (Ext.refl _)
  have z1 := (A1.ext (Ext.refl _)).lt
  obtain ⟨k2_0, k2_1, k2_2, f2_0, f2_1, f2_2⟩ := box3 A2 (Ext.refl _)
  have z2 := (A2.ext (Ext.refl _)).lt
  refine (HS.out _ x0).mono ?_
  rintro e w1 ⟨rfl, x1⟩
  obtain ⟨k0_0, k0_1, f0_0, f0_1⟩ := box2 A0 x1
  have z0 := (A0.ext x1).lt
  obtain ⟨k1_0, k1_1, f1_0, f1_1⟩ := box2 A1 x1
  have z1 := (A1.ext x1).lt
  obtain ⟨k2_0, k2_1, k2_2, f2_0, f2_1, f2_2⟩ := box3 A2 x1
  have z2 := (A2.ext x1).lt
  go_wp2_with fail
  refine (HN.out _ (x0.trans x1)).mono ?_
  rintro e w2 ⟨a1, c1, rfl, r1, f1, x2⟩
  obtain ⟨k0_0, k0_1, f0_0, f0_1⟩ := box2 A0 (x1.trans x2)
  have z0 := (A0.ext (x1.trans x2)).lt
  obtain ⟨k1_0, k1_1, f1_0, f1_1⟩ := box2 A1 (x1.trans x2)
  have z1 := (A1.ext (x1.trans x2)).lt
  obtain ⟨k2_0, k2_1, k2_2, f2_0, f2_1, f2_2⟩ := box3 A2 (x1.trans x2)
  have z2 := (A2.ext (x1.trans x2)).lt
  go_upto_region 4 with fail
  obtain ⟨W2, hW2, y2, ZZ2, P0⟩ := boxes1 w2 53 [.bool true, .slice a1 (len m) c1]
  rw [← hW2]
  clear hW2
  have g2 : Ext W W2 := (x1.trans x2).trans y2
  obtain ⟨k0_0, k0_1, f0_0, f0_1⟩ := box2 A0 g2
  have z0 := (A0.ext g2).lt
  obtain ⟨k1_0, k1_1, f1_0, f1_1⟩ := box2 A1 g2
  have z1 := (A1.ext g2).lt
  obtain ⟨k2_0, k2_1, k2_2, f2_0, f2_1, f2_2⟩ := box3 A2 g2
  have z2 := (A2.ext g2).lt
  obtain ⟨p0_0, p0_1, q0_0, q0_1⟩ := box2 P0 (Ext.refl _)
  obtain ⟨w3, hw3⟩ : ∃ w3 : World, w3 = W2 := ⟨_, rfl⟩
  have g3 : Ext W w3 := by rw [hw3]; exact g2
  rw [← hw3] at k0_0 k0_1 f0_0 f0_1 k1_0 k1_1 f1_0 f1_1 k2_0 k2_1 k2_2 f2_0 f2_1 f2_2 p0_0 p0_1 q0_0 q0_1 ⊢
  clear hw3
  go_wp2_with fail
  refine (HG.out _ (x0.trans g3)).mono ?_
  rintro e w4 ⟨a4, c4, rfl, r4, x4⟩
  go_upto_region 7 with fail
  obtain ⟨W4, hW4, y4, ZZ4, P1⟩ := boxes1 w4 53 [.bool false, .slice a4 (len G) c4]
  rw [← hW4]
  clear hW4
  have g4 : Ext W W4 := (g3.trans x4).trans y4
  obtain ⟨k0_0, k0_1, f0_0, f0_1⟩ := box2 A0 g4
  have z0 := (A0.ext g4).lt
  obtain ⟨k1_0, k1_1, f1_0, f1_1⟩ := box2 A1 g4
  have z1 := (A1.ext g4).lt
  obtain ⟨k2_0, k2_1, k2_2, f2_0, f2_1, f2_2⟩ := box3 A2 g4
  have z2 := (A2.ext g4).lt
  obtain ⟨p1_0, p1_1, q1_0, q1_1⟩ := box2 P1 (Ext.refl _)
  go_wp2_with fail
  refine (HD1.out _ _ _ (x0.trans g4) (r4.ext y4)).mono ?_
  rintro e w5 ⟨a5, c5, a6, c6, rfl, r5, f5, x5⟩
  go_upto_region 8 with fail
  obtain ⟨W5, hW5, y5, ZZ5, P2, P3⟩ := boxes2 w5 53 [.bool sN, .slice a5 (len N) c5] 53 [.bool false, .slice a6 0 c6]
  rw [← hW5]
  clear hW5
  have g5 : Ext W W5 := (g4.trans x5).trans y5
  obtain ⟨k0_0, k0_1, f0_0, f0_1⟩ := box2 A0 g5
  have z0 := (A0.ext g5).lt
  obtain ⟨k1_0, k1_1, f1_0, f1_1⟩ := box2 A1 g5
  have z1 := (A1.ext g5).lt
  obtain ⟨k2_0, k2_1, k2_2, f2_0, f2_1, f2_2⟩ := box3 A2 g5
  have z2 := (A2.ext g5).lt
  obtain ⟨p1_0, p1_1, q1_0, q1_1⟩ := box2 P1 (x5.trans y5)
  obtain ⟨p2_0, p2_1, q2_0, q2_1⟩ := box2 P2 (Ext.refl _)
  go_wp2_with fail
  refine (HD2.out _ _ _ (x0.trans g5) (((r4.ext y4).ext x5).ext y5)).mono ?_
  rintro e w6 ⟨a7, c7, a8, c8, rfl, r7, f7, x6⟩
  go_upto_region 9 with fail
  obtain ⟨W6, hW6, y6, ZZ6, P4, P5⟩ := boxes2 w6 53 [.bool true, .slice a7 (len D) c7] 53 [.bool false, .slice a8 0 c8]
  rw [← hW6]
  clear hW6
  have g6 : Ext W W6 := (g5.trans x6).trans y6
  have v6 : Ext W5 W6 := x6.trans y6
  obtain ⟨k0_0, k0_1, f0_0, f0_1⟩ := box2 A0 g6
  have z0 := (A0.ext g6).lt
  obtain ⟨k1_0, k1_1, f1_0, f1_1⟩ := box2 A1 g6
  have z1 := (A1.ext g6).lt
  obtain ⟨k2_0, k2_1, k2_2, f2_0, f2_1, f2_2⟩ := box3 A2 g6
  have z2 := (A2.ext g6).lt
  obtain ⟨p2_0, p2_1, q2_0, q2_1⟩ := box2 P2 v6
  obtain ⟨p4_0, p4_1, q4_0, q4_1⟩ := box2 P4 (Ext.refl _)
  have zz := Z0.out
  obtain ⟨sM, hsM⟩ : ∃ sM, sM = decide (sgn (s != true) N < 0) := ⟨_, rfl⟩
  have e5 : Ext w5 W6 := y5.trans v6
  have hN1 : ∀ V, Ext W6 V → Calls Tryz.prog 89 #[.agg #[.bool sN, .slice a5 (len N) c5]] V fun e w' => ∃ a9 c9, e = .returned (.agg #[.bool sM, .slice a9 (len N) c9]) ∧ Raw w' a9 (len N) c9 N ∧ Fr V.heap.size a9 ∧ Ext V w' := by
    intro V hV
    refine (r2_Neg V sN a5 _ c5 N ((r5.ext e5).ext hV)).mono ?_
    rintro e w' ⟨a9, c9, he, hr, hf, hx⟩
    have e1 : -sgn sN N = sgn (s != true) N := by
      have e2 := sgn_dec (sgn s N)
      rw [sgn_natAbs, ← HSN.out] at e2
      rw [e2, ← sgn_not]; cases s <;> rfl
    rw [e1] at he hr
    rw [sgn_natAbs] at he hr
    rw [← hsM] at he
    exact ⟨a9, c9, he, hr, hf, hx⟩
  have hN2 : ∀ V, Ext W6 V → Calls Tryz.prog 89 #[.agg #[.bool true, .slice a7 (len D) c7]] V fun e w' => ∃ a9 c9, e = .returned (.agg #[.bool false, .slice a9 (len D) c9]) ∧ Raw w' a9 (len D) c9 D ∧ Fr V.heap.size a9 ∧ Ext V w' := by
    intro V hV
    refine (r2_Neg V true a7 _ c7 D ((r7.ext y6).ext hV)).mono ?_
    rintro e w' ⟨a9, c9, he, hr, hf, hx⟩
    rw [← sgn_not, Bool.not_true] at he hr
    rw [sgn_natAbs] at he hr
    rw [sgn_lt false D hmg] at he
    exact ⟨a9, c9, he, hr, hf, hx⟩
  have HN1 := Lib.hid hN1; have HN2 := Lib.hid hN2; have HSM := Lib.hid hsM
  clear hN1 hN2 hsM
  have s45 : W.heap.size ≤ w5.heap.size := (g4.trans x5).size
  have s46 : W.heap.size ≤ w6.heap.size := (g5.trans x6).size
  have s56 : w5.heap.size < w6.heap.size := Nat.lt_of_lt_of_le P2.lt x6.size
  go_upto_region 10 with fail
  have tok1 : True := trivial
  go_cut [] (fun wx => ∃ a9 c9 a10 c10, Arr wx w5.heap.size 53 [.bool sM, .slice a9 (len N) c9] ∧ Arr wx w6.heap.size 53 [.bool false, .slice a10 (len D) c10] ∧ Raw wx a9 (len N) c9 N ∧ Raw wx a10 (len D) c10 D ∧ Fr W.heap.size a9 ∧ Fr W.heap.size a10 ∧ Ext W wx)
  case first =>
    go_region_with (first
      | (go_at_call 89; have _t := tok1; refine (HN1.out _ (by exact (Ext.refl _).drew)).mono ?_; rintro e w7 ⟨a9, c9, rfl, r9, f9, x7⟩; clear tok1 _t; obtain ⟨p2_0, p2_1, q2_0, q2_1⟩ := box2 P2 (v6.drew.trans x7); obtain ⟨p4_0, p4_1, q4_0, q4_1⟩ := box2 P4 ((Ext.refl _).drew.trans x7))
      | (go_at_call 89; refine (HN2.out _ (by exact (Ext.refl _).drew.trans x7)).mono ?_; rintro e w8 ⟨a10, c10, rfl, r10, f10, x8⟩; obtain ⟨p2_0, p2_1, q2_0, q2_1⟩ := box2 P2 (v6.drew.trans (x7.trans x8)); obtain ⟨p4_0, p4_1, q4_0, q4_1⟩ := box2 P4 ((Ext.refl _).drew.trans (x7.trans x8))))
    all_goals go_wp2_with fail
    all_goals go_meet
    all_goals have g8 : Ext W6 w8 := (Ext.refl _).drew.trans (x7.trans x8)
    all_goals have z9 : Fr (w6.heap.size + 1) a9 := f9.mono P4.lt
    all_goals have z10 : Fr (w6.heap.size + 1) a10 := f10.mono (Nat.le_trans P4.lt x7.size)
    all_goals exact ⟨a9, c9, a10, c10, (((P2.ext v6).ext g8).set2 _ _).other2 _ _ (by omega), ((P4.ext g8).other2 _ _ (by omega)).set2 _ _, (((((r9.ext x8).setCell _ _ (z9.ne (by simp only; omega))).setCell _ _ (z9.ne (by simp only; omega))).setCell _ _ (z9.ne (by simp only; omega))).setCell _ _ (z9.ne (by simp only; omega))), ((((r10.setCell _ _ (z10.ne (by simp only; omega))).setCell _ _ (z10.ne (by simp only; omega))).setCell _ _ (z10.ne (by simp only; omega))).setCell _ _ (z10.ne (by simp only; omega))), z9.mono (by omega), z10.mono (by omega), (((((g6.trans g8).setCell s45 _).setCell s45 _).setCell s46 _).setCell s46 _)⟩
  case rest =>
    obtain ⟨a9, c9, a10, c10, E7, E10, r9, r10, f9, f10, g9⟩ := hcut
    clear p2_0 p2_1 q2_0 q2_1 p4_0 p4_1 q4_0 q4_1
    obtain ⟨w9, rfl⟩ : ∃ w9 : World, w9 = wc := ⟨_, rfl⟩
    obtain ⟨k0_0, k0_1, f0_0, f0_1⟩ := box2 A0 g9
    have z0 := (A0.ext g9).lt
    obtain ⟨k1_0, k1_1, f1_0, f1_1⟩ := box2 A1 g9
    have z1 := (A1.ext g9).lt
    obtain ⟨k2_0, k2_1, k2_2, f2_0, f2_1, f2_2⟩ := box3 A2 g9
    have z2 := (A2.ext g9).lt
    obtain ⟨p2_0, p2_1, q2_0, q2_1⟩ := box2 E7 (Ext.refl _)
    obtain ⟨p4_0, p4_1, q4_0, q4_1⟩ := box2 E10 (Ext.refl _)
    go_wp2_with fail
    have rN : Raw w9 a9 (len q.num.natAbs) c9 q.num.natAbs := by rw [M1.out]; exact r9
    have rD : Raw w9 a10 (len q.den) c10 q.den := by rw [M2.out]; exact r10
    have fin : NewRat q W (.returned (.agg #[.bool (decide (q.num < 0)), .slice a9 (len q.num.natAbs) c9, .slice a10 (len q.den) c10])) w9 := ⟨_, _, _, _, rfl, rN, f9, rD, f10, g9⟩
    rw [M1.out, M2.out, M3.out, ← HSM.out] at fin
    exact bodyPost_ret (by simp [results, Tryz.results75, go_sem, k2_0, k2_1, k2_2]) rfl (NewRat.touch fin x0 (Touch.three _ (by omega) (by omega) _ _ _))

/-- ref03.Make. -/
theorem r3_Make (w : World) (s t : Bool) (a b : Option Addr) (k c k' c' n m : Nat) (h : Raw w a k c n) (h' : Raw w b k' c' m) (b1 : k < 900000000) (b2 : k' < 900000000) :
    Calls Tryz.prog 75 #[.agg #[.bool s, .slice a k c], .agg #[.bool t, .slice b k' c']] w (NewRat (mkRat (sgn (s != t) n) m) w) := by
  by_cases h0 : m = 0
  · exact r3_Make_zero w s t a b k c k' c' n m h h' h0
  · cases t with
    | true => exact r3_Make_true w s true a b k c k' c' n m h h' rfl (by omega) b1 b2
    | false =>
      by_cases h1 : m = 1
      · subst h1; exact r3_Make_one w s a b k c k' c' n h h'
      · exact r3_Make_false w s false a b k c k' c' n m h h' rfl (by omega) b1 b2 h1
end Go.Proofs.YtgihpfkjpfanmaaGreat
