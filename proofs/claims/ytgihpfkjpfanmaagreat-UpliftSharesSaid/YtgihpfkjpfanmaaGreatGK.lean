/- Texts of the proof: Ref15, Ref16. -/
import Derived.Test.YtgihpfkjpfanmaaGreatGJ
import Derived.Test.YtgihpfkjpfanmaaGreatGG
/- Contracts of the reference's package 03: Floor. -/
namespace Go.Proofs.YtgihpfkjpfanmaaGreat
open Go.RowKit

theorem cell_set2 {w : World} {b : Nat} {p : Addr} {x v0 v1 : Value} (h : w.cell? p = some x) (hb : p.block ≠ b) : ((w.setCell ⟨b, 0, none⟩ v0).setCell ⟨b, 1, none⟩ v1).cell? p = some x := by
  rw [World.cell?_setCell_other _ _ _ _ (by intro e; exact hb (by rw [← e])), World.cell?_setCell_other _ _ _ _ (by intro e; exact hb (by rw [← e])), h]

/-- A call returns two new integers with these parts, and true. -/
def IntsOf (s : Bool) (n : Nat) (s' : Bool) (n' : Nat) (w : World) (e : Ending) (w' : World) : Prop := ∃ a c a' c', e = .returned (.tuple #[.agg #[.bool s, .slice a (len n) c], .agg #[.bool s', .slice a' (len n') c'], .bool true]) ∧ Raw w' a (len n) c n ∧ Fr w.heap.size a ∧ Raw w' a' (len n') c' n' ∧ Fr w.heap.size a' ∧ Ext w w'

set_option maxHeartbeats 20000000 in
set_option maxRecDepth 100000 in
/-- ref03.Floor, over its callees. -/
theorem r3_Floor_walk (w : World) (s : Bool) (a b : Option Addr) (k c j d : Nat) (sP sq sr : Bool) (nP dP nq nr : Nat) (hN : ∀ V, Ext w V → Calls Tryz.prog 74 #[.agg #[.bool s, .slice a k c, .slice b j d]] V (RatOf sP nP dP V)) (hD : ∀ V, Ext w V → Calls Tryz.prog 78 #[.agg #[.bool s, .slice a k c, .slice b j d]] V (IntOf false dP V)) (hV : ∀ V a c b d, Raw V a (len nP) c nP → Raw V b (len dP) d dP → Calls Tryz.prog 92 #[.agg #[.bool sP, .slice a (len nP) c], .agg #[.bool false, .slice b (len dP) d]] V (IntsOf sq nq sr nr V)) :
    Calls Tryz.prog 41 #[.agg #[.bool s, .slice a k c, .slice b j d]] w (IntOf sq nq w) := by
  have HN := Lib.hid hN; have HD := Lib.hid hD; have HV := Lib.hid hV; clear hN hD hV
  have fd0 := Tryz.rat_num
  have fd1 := Tryz.rat_den
  go_enter Tryz.func41, Tryz.ntmps41
  go_wp2_with fail
  obtain ⟨W, hW, x0, Z0, A0, A1⟩ := boxes2 w 55 [.bool s, .slice a k c, .slice b j d] 53 [.bool false, .slice none 0 0]
  rw [← hW]
  clear hW
  obtain ⟨k0_0, k0_1, k0_2, f0_0, f0_1, f0_2⟩ := box3 A0 (Ext.refl _)
  have z0 := (A0.ext (Ext.refl _)).lt
  obtain ⟨k1_0, k1_1, f1_0, f1_1⟩ := box2 A1 (Ext.refl _)
  have z1 := (A1.ext (Ext.refl _)).lt
  have sW0 : w.heap.size < W.heap.size := by rw [Z0.out]; omega
  clear f0_0 f0_1 f0_2 f1_0 f1_1 k1_0 k1_1 z1
  go_cut [3] (fun s3 wx => ∃ (g3 : Nat) (a3 : Option Addr) (c3 : Nat), s3 = .pointer (some ⟨g3, 0, none⟩) ∧ W.heap.size ≤ g3 ∧ Hid (Arr wx g3 53 [.bool sq, .slice a3 (len nq) c3]) ∧ Raw wx a3 (len nq) c3 nq ∧ Fr W.heap.size a3 ∧ Ext W wx)
  case first =>
    go_region_held3 (fun w' => w'.cell? ⟨w.heap.size, 0, none⟩ = some (.bool s) ∧ w'.cell? ⟨w.heap.size, 1, none⟩ = some (.slice a k c) ∧ w'.cell? ⟨w.heap.size, 2, none⟩ = some (.slice b j d)) (first | with_reducible exact ⟨k0_0, k0_1, k0_2⟩ | (refine ⟨?_, ?_, ?_⟩ <;> (repeat (with_reducible first | exact k0_0 | exact k0_1 | exact k0_2 | refine cell_drew' ?_ | refine cell_alloc' ?_ | (refine cell_set2 ?_ ?_; rotate_left; (· simp only; omega)))))) (first
      | (go_at_call 74; (with_reducible refine (HN.out _ (by refine x0.trans ?_; repeat (with_reducible first | exact Ext.refl _ | refine Ext.drew ?_ | refine Ext.alloc ?_ _))).mono ?_); rintro e w1 ⟨a1, c1, b1, d1, rfl, r1, f1, q1, g1, x1⟩; have v1 : Ext W w1 := (by refine Ext.trans ?_ x1; repeat (with_reducible first | exact Ext.refl _ | refine Ext.drew ?_ | refine Ext.alloc ?_ _)); clear k0_0 k0_1 k0_2; obtain ⟨k0_0, k0_1, k0_2, -, -, -⟩ := box3 A0 v1; have z0 := (A0.ext v1).lt; (first | (have y1 : Ext ((W.alloc (.cells #[.bool false, .slice none 0 0] 53)).alloc (.cells #[.bool false, .slice none 0 0] 53)) w1 := (by with_reducible exact Ext.trans (Ext.drew (Ext.refl _)) x1); have RC1 : Arr w1 (W.heap.size + 1) 53 [.bool false, .slice none 0 0] := (Arr.alloc2 W (.cells #[.bool false, .slice none 0 0] 53) 53 [.bool false, .slice none 0 0]).ext y1; have RB1 : Arr w1 W.heap.size 53 [.bool false, .slice none 0 0] := ((Arr.alloc W 53 [.bool false, .slice none 0 0]).ext ((Ext.refl _).alloc (.cells #[.bool false, .slice none 0 0] 53))).ext y1; obtain ⟨m1_0, m1_1, m1_2, m1_3⟩ := box2 RB1 (Ext.refl _); have m1_z := RB1.lt; obtain ⟨l1_0, l1_1, l1_2, l1_3⟩ := box2 RC1 (Ext.refl _); have l1_z := RC1.lt; clear y1) | (have y1 : Ext (W.alloc (.cells #[.bool false, .slice none 0 0] 53)) w1 := (by with_reducible exact Ext.trans (Ext.drew (Ext.refl _)) x1); have RB1 : Arr w1 W.heap.size 53 [.bool false, .slice none 0 0] := (Arr.alloc W 53 [.bool false, .slice none 0 0]).ext y1; obtain ⟨m1_0, m1_1, m1_2, m1_3⟩ := box2 RB1 (Ext.refl _); have m1_z := RB1.lt; clear y1) | skip))
      | (go_at_call 78; (with_reducible refine (HD.out _ (by refine x0.trans ?_; repeat (with_reducible first | exact v1 | refine Ext.drew ?_ | refine Ext.alloc ?_ _))).mono ?_); rintro e w2 ⟨a2, c2, rfl, r2, f2, x2⟩; have v2 : Ext W w2 := (by refine Ext.trans ?_ x2; repeat (with_reducible first | exact v1 | refine Ext.drew ?_ | refine Ext.alloc ?_ _)); have y20 : Ext w1 w2 := (by refine Ext.trans ?_ x2; repeat (with_reducible first | exact Ext.refl _ | refine Ext.drew ?_ | refine Ext.alloc ?_ _)); clear k0_0 k0_1 k0_2; obtain ⟨k0_0, k0_1, k0_2, -, -, -⟩ := box3 A0 v2; have z0 := (A0.ext v2).lt; have r1 := r1.ext y20; (first | (have RB1 := RB1.ext y20; obtain ⟨m1_0, m1_1, m1_2, m1_3⟩ := box2 RB1 (Ext.refl _); have m1_z := RB1.lt) | skip); (first | (have RC1 := RC1.ext y20; obtain ⟨l1_0, l1_1, l1_2, l1_3⟩ := box2 RC1 (Ext.refl _); have l1_z := RC1.lt) | skip); (first | (have y1 : Ext ((w1.alloc (.cells #[.bool false, .slice none 0 0] 53)).alloc (.cells #[.bool false, .slice none 0 0] 53)) w2 := (by with_reducible exact x2); have RC2 : Arr w2 (w1.heap.size + 1) 53 [.bool false, .slice none 0 0] := (Arr.alloc2 w1 (.cells #[.bool false, .slice none 0 0] 53) 53 [.bool false, .slice none 0 0]).ext y1; have RB2 : Arr w2 w1.heap.size 53 [.bool false, .slice none 0 0] := ((Arr.alloc w1 53 [.bool false, .slice none 0 0]).ext ((Ext.refl _).alloc (.cells #[.bool false, .slice none 0 0] 53))).ext y1; obtain ⟨m2_0, m2_1, m2_2, m2_3⟩ := box2 RB2 (Ext.refl _); have m2_z := RB2.lt; obtain ⟨l2_0, l2_1, l2_2, l2_3⟩ := box2 RC2 (Ext.refl _); have l2_z := RC2.lt; clear y1) | (have y1 : Ext (w1.alloc (.cells #[.bool false, .slice none 0 0] 53)) w2 := (by with_reducible exact x2); have RB2 : Arr w2 w1.heap.size 53 [.bool false, .slice none 0 0] := (Arr.alloc w1 53 [.bool false, .slice none 0 0]).ext y1; obtain ⟨m2_0, m2_1, m2_2, m2_3⟩ := box2 RB2 (Ext.refl _); have m2_z := RB2.lt; clear y1) | skip))
      | (go_at_call 92; (with_reducible refine (HV.out _ _ _ _ _ (by repeat (with_reducible first | exact r1 | refine Raw.alloc' ?_ _)) (by repeat (with_reducible first | exact r2 | refine Raw.alloc' ?_ _))).mono ?_); rintro e w3 ⟨a3, c3, a4, c4, rfl, r3, f3, r4, f4, x3⟩; have v3 : Ext W w3 := (by refine Ext.trans ?_ x3; repeat (with_reducible first | exact v2 | refine Ext.drew ?_ | refine Ext.alloc ?_ _)); have y30 : Ext w2 w3 := (by refine Ext.trans ?_ x3; repeat (with_reducible first | exact Ext.refl _ | refine Ext.drew ?_ | refine Ext.alloc ?_ _)); clear k0_0 k0_1 k0_2; obtain ⟨k0_0, k0_1, k0_2, -, -, -⟩ := box3 A0 v3; have z0 := (A0.ext v3).lt; (first | (have RB1 := RB1.ext y30; obtain ⟨m1_0, m1_1, m1_2, m1_3⟩ := box2 RB1 (Ext.refl _); have m1_z := RB1.lt) | skip); (first | (have RC1 := RC1.ext y30; obtain ⟨l1_0, l1_1, l1_2, l1_3⟩ := box2 RC1 (Ext.refl _); have l1_z := RC1.lt) | skip); (first | (have RB2 := RB2.ext y30; obtain ⟨m2_0, m2_1, m2_2, m2_3⟩ := box2 RB2 (Ext.refl _); have m2_z := RB2.lt) | skip); (first | (have RC2 := RC2.ext y30; obtain ⟨l2_0, l2_1, l2_2, l2_3⟩ := box2 RC2 (Ext.refl _); have l2_z := RC2.lt) | skip); (first | (have y1 : Ext ((w2.alloc (.cells #[.bool false, .slice none 0 0] 53)).alloc (.cells #[.bool false, .slice none 0 0] 53)) w3 := (by with_reducible exact x3); have RC3 : Arr w3 (w2.heap.size + 1) 53 [.bool false, .slice none 0 0] := (Arr.alloc2 w2 (.cells #[.bool false, .slice none 0 0] 53) 53 [.bool false, .slice none 0 0]).ext y1; have RB3 : Arr w3 w2.heap.size 53 [.bool false, .slice none 0 0] := ((Arr.alloc w2 53 [.bool false, .slice none 0 0]).ext ((Ext.refl _).alloc (.cells #[.bool false, .slice none 0 0] 53))).ext y1; obtain ⟨m3_0, m3_1, m3_2, m3_3⟩ := box2 RB3 (Ext.refl _); have m3_z := RB3.lt; obtain ⟨l3_0, l3_1, l3_2, l3_3⟩ := box2 RC3 (Ext.refl _); have l3_z := RC3.lt; clear y1) | (have y1 : Ext (w2.alloc (.cells #[.bool false, .slice none 0 0] 53)) w3 := (by with_reducible exact x3); have RB3 : Arr w3 w2.heap.size 53 [.bool false, .slice none 0 0] := (Arr.alloc w2 53 [.bool false, .slice none 0 0]).ext y1; obtain ⟨m3_0, m3_1, m3_2, m3_3⟩ := box2 RB3 (Ext.refl _); have m3_z := RB3.lt; clear y1) | skip)))
    all_goals go_wp2_with fail
    all_goals go_meet
    all_goals have sz1 := x1.size
    all_goals have sz2 := x2.size
    all_goals have sz3 := x3.size
    all_goals simp at sz1 sz2 sz3
    all_goals have o1 := v1.size
    all_goals have o2 := y20.size
    all_goals have o3 := y30.size
    all_goals refine ⟨_, a3, c3, rfl, ?_, ?_, ?_, ?_, ?_⟩
    all_goals first
      | (with_reducible refine Lib.hid ?_; (repeat (with_reducible first | exact Arr.alloc _ _ _ | exact Arr.alloc2 _ _ _ _ | (refine Arr.alloc_at _ _ () ?_; simp; done) | exact RB1 | exact RB1.set2 _ _ | (refine (RB1.other2 _ _ ?_).set2 _ _; omega) | exact RC1 | exact RC1.set2 _ _ | (refine (RC1.other2 _ _ ?_).set2 _ _; omega) | exact RB2 | exact RB2.set2 _ _ | (refine (RB2.other2 _ _ ?_).set2 _ _; omega) | exact RC2 | exact RC2.set2 _ _ | (refine (RC2.other2 _ _ ?_).set2 _ _; omega) | exact RB3 | exact RB3.set2 _ _ | (refine (RB3.other2 _ _ ?_).set2 _ _; omega) | exact RC3 | exact RC3.set2 _ _ | (refine (RC3.other2 _ _ ?_).set2 _ _; omega) | (refine Arr.other2 ?_ _ _ ?_; rotate_left; (· omega)) | refine Arr.alloc' ?_ _)); done)
      | ((repeat (with_reducible first | exact r3 | refine Raw.alloc' ?_ _ | (refine Raw.setCell ?_ _ _ (f3.ne ?_); rotate_left; (· first | (simp; done) | (simp only; omega) | (simp; omega))))); done)
      | (refine Fr.mono f3 ?_; first | (simp; omega) | omega)
      | ((repeat (with_reducible first | exact v3 | refine Ext.alloc ?_ _ | (refine Ext.setCell ?_ ?_ _; rotate_left; (· first | (simp; done) | (simp only; omega) | (simp; omega))))); done)
      | omega
  case rest =>
    obtain ⟨g3, a3, c3, rfl, s3, G3, r3, f3, hx⟩ := hcut
    obtain ⟨k0_0, k0_1, k0_2, f0_0, f0_1, f0_2⟩ := box3 A0 hx
    have z0 := (A0.ext hx).lt
    obtain ⟨k1_0, k1_1, f1_0, f1_1⟩ := box2 A1 hx
    have z1 := (A1.ext hx).lt
    obtain ⟨m0, m1, -, -⟩ := box2 G3.out (Ext.refl _)
    go_wp2_with fail
    have fin : IntOf sq nq W (.returned (.agg #[.bool sq, .slice a3 (len nq) c3])) wc := ⟨_, _, rfl, r3, f3, hx⟩
    exact bodyPost_ret (by simp [results, Tryz.results41, go_sem, k1_0, k1_1]) rfl (IntOf.touch fin x0 (Touch.two _ (by omega) (by rw [Z0.out]; omega) _ _))

theorem NewInts.intsOf {x y : Int} {w w' : World} {e : Ending} (h : NewInts x y w e w') : IntsOf (decide (x < 0)) x.natAbs (decide (y < 0)) y.natAbs w e w' := h
theorem IntOf.newInt {z : Int} {w w' : World} {e : Ending} (h : IntOf (decide (z < 0)) z.natAbs w e w') : NewInt z w e w' := h

/-- ref03.Floor. -/
theorem r3_Floor (w : World) (s : Bool) (a b : Option Addr) (k c j d n m : Nat) (h : Raw w a k c n) (g : Raw w b j d m) (b1 : k < 200000000) (b2 : j < 200000000) :
    Calls Tryz.prog 41 #[.agg #[.bool s, .slice a k c, .slice b j d]] w (NewInt (mkRat (sgn s n) m).floor w) := by
  obtain ⟨l1, l2⟩ := rat_lens s n m h.len_le g.len_le b1 b2
  have hN := fun V (hV : Ext w V) => (r3_Norm V s a b k c j d n m (h.ext hV) (g.ext hV) b1 b2).mono (fun _ _ hh => hh.ratOf)
  have hD := fun V (hV : Ext w V) => r3_den V s a b k c j d n m (h.ext hV) (g.ext hV) b1 b2
  generalize mkRat (sgn s n) m = P at *
  have hd : 0 < P.den := P.den_pos
  have hF : P.floor = P.num / (P.den : Int) := by rw [Rat.floor_def]
  rw [hF]
  refine (r3_Floor_walk w s a b k c j d _ _ (decide (P.num % (P.den : Int) < 0)) _ _ _ (P.num % (P.den : Int)).natAbs hN hD (fun V a c b d h1 h2 => ?_)).mono (fun _ _ hh => hh.newInt)
  have := r2_DivMod V (decide (P.num < 0)) false a b _ c _ d _ _ h1 h2 hd (by omega) (by omega)
  rw [sgn_dec, sgn_false] at this
  exact this.mono (fun _ _ hh => hh.intsOf)

end Go.Proofs.YtgihpfkjpfanmaaGreat

/- Contract of the reference's package 03: Sum. -/
namespace Go.Proofs.YtgihpfkjpfanmaaGreat
open Go.RowKit

set_option maxHeartbeats 2000000 in
/-- ref03.Sum. -/
theorem r3_Sum (w : World) (a : Option Addr) (c : Nat) (rs : List RVal) (qs : List Rat) (L : Nat) (h : Rats w a c rs qs L) (hb : rs.length * (L + 2) + L + 1 < 100000000) (hK : ∀ i (hi : i < rs.length), rs[i].k < 200000000 ∧ rs[i].j < 200000000) :
    Calls Tryz.prog 38 #[.slice a rs.length c] w (NewRat (qsum qs) w) := by
  have hle := h.le
  have hcap := h.cap
  have hsh := h.short
  go_enter Tryz.func38, Tryz.ntmps38
  go_wp2_with fail
  obtain ⟨W, hW, x0, Z0, A0⟩ := boxes1 w 55 [.bool false, .slice none 0 0, .slice none 0 0]
  rw [← hW]
  clear hW
  obtain ⟨k0_0, k0_1, k0_2, f0_0, f0_1, f0_2⟩ := box3 A0 (Ext.refl _)
  have z0 := (A0.ext (Ext.refl _)).lt
  refine (r3_Zero _).mono ?_
  intro e w1 hN
  obtain ⟨r1, rfl, hr1, hx1⟩ := hN.isCan
  obtain ⟨k0_0, k0_1, k0_2, f0_0, f0_1, f0_2⟩ := box3 A0 hx1
  have z0 := (A0.ext hx1).lt
  go_wp2
  obtain ⟨w2, hw2⟩ : ∃ w2, w2 = w1.alloc (Obj.cells #[.bool r1.s, .slice r1.a r1.k r1.c, .slice r1.b r1.j r1.d] 55) := ⟨_, rfl⟩
  rw [← hw2]
  have E2 : Ext w w2 := by rw [hw2]; exact (x0.trans hx1).alloc _
  have P2 : Arr w2 w1.heap.size 55 r1.cells := by rw [hw2]; exact Arr.alloc _ _ _
  have R2 : IsCan w2 r1 (qsum (qs.take 0)) (w.heap.size + 1) := by rw [hw2, ← Z0.out]; exact hr1.ext ((Ext.refl _).alloc _)
  have Q2 : rsz (qsum (qs.take 0)) ≤ 2 := by show rsz (((0 : Int) : Rat)) ≤ 2; rw [rsz_int]; decide
  have C2 : Arr w2 w.heap.size 55 [.bool false, .slice none 0 0, .slice none 0 0] := by rw [hw2]; exact (A0.ext hx1).ext ((Ext.refl _).alloc _)
  have S1 : w.heap.size < w1.heap.size := z0
  clear hw2 k0_0 k0_1 k0_2 f0_0 f0_1 f0_2 z0 hr1 hN
  go_loopw [4] (fun ii wr => ∃ (i : Nat) (r : RVal), i ≤ rs.length ∧ Hid (Arr wr w1.heap.size 55 r.cells) ∧ IsCan wr r (qsum (qs.take i)) (w.heap.size + 1) ∧ Hid (rsz (qsum (qs.take i)) ≤ i * (L + 2) + 2) ∧ Hid (Arr wr w.heap.size 55 [.bool false, .slice none 0 0, .slice none 0 0]) ∧ Ext w wr ∧ ii = .int .i64 i) (fun ii _ => rs.length - (intOf ii).toNat)
  case atStart => exact ⟨0, r1, Nat.zero_le _, P2, R2, Nat.le_trans Q2 (by omega), C2, E2, rfl⟩
  case round =>
    obtain ⟨i, r, hi, hP, hR, hS, hC, hE, rfl⟩ := hrel
    by_cases hlt : i < rs.length
    · have hq := h.ext hE
      obtain ⟨b, o, rfl⟩ := h.at (by omega)
      obtain ⟨b', o', e', c0, c1, c2⟩ := hq.cell i hlt
      cases e'
      obtain ⟨n', m', g1, g2, gq, gl1, gl2⟩ := hq.num i hlt
      obtain ⟨n, m, f1, f2, fq, fl1, fl2⟩ := hR.isRat.mono hS.out
      have hmul : i * (L + 2) + (L + 2) ≤ rs.length * (L + 2) := by
        rw [← Nat.succ_mul]; exact Nat.mul_le_mul_right _ hlt
      have hKi := hK i hlt
      generalize rs[i] = y at *
      have FQ := Lib.hid fq; have GQ := Lib.hid gq; clear fq gq
      obtain ⟨p0, p1, p2, p3, p4, p5⟩ := box3 hP.out (Ext.refl _)
      have pz := hP.out.lt
      have cz := hC.out.lt
      have szq : rsz (qsum (qs.take i) + qs[i]'(by rw [h.len]; exact hlt)) ≤ (i + 1) * (L + 2) + 2 := by
        have a1 := rsz_add (qsum (qs.take i)) (qs[i]'(by rw [h.len]; exact hlt))
        have a2 := hS.out
        have a3 := IsRat.rsz ⟨n', m', g1, g2, GQ.out, gl1, gl2⟩
        rw [Nat.succ_mul]; omega
      have SZ := Lib.hid szq
      clear szq
      have kr1 : r.k < 200000000 := by rw [hR.k]; have := rsz_num (qsum (qs.take i)); have := hS.out; omega
      have kr2 : r.j < 200000000 := by rw [hR.j]; have := rsz_den (qsum (qs.take i)); have := hS.out; omega
      have bi0 : (0 : Int) ≤ (i : Int) := by omega
      have bi1 : (i : Int) < (rs.length : Int) := by omega
      go_wp2_with fail
      go_region_with ((go_at_call 30; (refine (r3_Add _ _ _ _ _ _ _ _ _ _ (by exact f1.ext (Ext.refl _).drew) (by exact f2.ext (Ext.refl _).drew) _ _ _ _ _ _ _ _ _ (by exact g1.ext (Ext.refl _).drew) (by exact g2.ext (Ext.refl _).drew) (by omega) (by omega) (by omega) (by omega)).mono ?_); intro e w3 hN; rw [← FQ.out, ← GQ.out] at hN; obtain ⟨r3, rfl, hr3, hx3⟩ := hN.isCan; obtain ⟨p0, p1, p2, p3, p4, p5⟩ := box3 hP.out ((Ext.refl _).drew.trans hx3); have pz3 := (hP.out.ext ((Ext.refl _).drew.trans hx3)).lt))
      all_goals have hP3 := hP.out.ext ((Ext.refl _).drew.trans hx3)
      all_goals have hC3 := hC.out.ext ((Ext.refl _).drew.trans hx3)
      all_goals have hsz : w1.heap.size < wr.drew.heap.size := pz
      all_goals go_wp2
      all_goals refine ⟨⟨i + 1, r3, by omega, ?_, ?_, ?_, ?_, Ext.set3 ((hE.drew).trans hx3) (by omega) _ _ _, by go_num⟩, by simp [intOf]; omega⟩
      all_goals first
        | exact (((hP3.set 0 _).set 1 _).set 2 _)
        | (rw [qsum_take (by rw [h.len]; exact hlt)]
           exact (((hr3.setCell _ _ hsz).setCell _ _ hsz).setCell _ _ hsz).mono (by have := hE.size; simp; omega))
        | (rw [qsum_take (by rw [h.len]; exact hlt)]; exact SZ.out)
        | exact ((hC3.other _ _ (by simp; omega)).other _ _ (by simp; omega)).other _ _ (by simp; omega)
    · obtain rfl : i = rs.length := by omega
      rw [show qs.take rs.length = qs from List.take_of_length_le (by rw [h.len]; exact Nat.le_refl _)] at hR
      obtain ⟨p0, p1, p2, p3, p4, p5⟩ := box3 hP.out (Ext.refl _)
      obtain ⟨q0, q1, q2, q3, q4, q5⟩ := box3 hC.out (Ext.refl _)
      go_wp2
      exact bodyPost_ret (by simp [results, Tryz.results38, go_sem, *]) rfl (IsCan.newRat ((((hR.setCell _ _ (Nat.lt_succ_self _)).setCell _ _ (Nat.lt_succ_self _)).setCell _ _ (Nat.lt_succ_self _)).mono (Nat.le_succ _)) (Ext.set3 hE (Nat.le_refl _) _ _ _))
end Go.Proofs.YtgihpfkjpfanmaaGreat
