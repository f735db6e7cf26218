/- Texts of the proof: Ref11, Ref12, Ref13, Ref14. -/
import Derived.Test.YtgihpfkjpfanmaaGreatGI
import Derived.Deep.DeepCutAuto
/- Contracts of the reference's package 03: Norm, den, FromInt, Of, Sign, Neg, Mul, Div, Over. -/
namespace Go.Proofs.YtgihpfkjpfanmaaGreat
open Go.RowKit

theorem Tryz.rat_num (s : Bool) (a b : Option Addr) (k c j d : Nat) (w : World) : (Instr.field 55 (.agg #[.bool s, .slice a k c, .slice b j d]) 0).run Tryz.prog w = .ok (.agg #[.bool s, .slice a k c]) w := by kernel_rfl
theorem Tryz.rat_den (s : Bool) (a b : Option Addr) (k c j d : Nat) (w : World) : (Instr.field 55 (.agg #[.bool s, .slice a k c, .slice b j d]) 1).run Tryz.prog w = .ok (.slice b j d) w := by kernel_rfl

/-- A call returns a new rational number with these parts. -/
def RatOf (s : Bool) (n m : Nat) (w : World) (e : Ending) (w' : World) : Prop := ∃ a c a' c', e = .returned (.agg #[.bool s, .slice a (len n) c, .slice a' (len m) c']) ∧ Raw w' a (len n) c n ∧ Fr w.heap.size a ∧ Raw w' a' (len m) c' m ∧ Fr w.heap.size a' ∧ Ext w w'
/-- A call returns a new integer with these parts. -/
def IntOf (s : Bool) (n : Nat) (w : World) (e : Ending) (w' : World) : Prop := ∃ a c, e = .returned (.agg #[.bool s, .slice a (len n) c]) ∧ Raw w' a (len n) c n ∧ Fr w.heap.size a ∧ Ext w w'

theorem NewRat.ratOf {q : Rat} {w w' : World} {e : Ending} (h : NewRat q w e w') : RatOf (decide (q.num < 0)) q.num.natAbs q.den w e w' := h
theorem RatOf.newRat {q : Rat} {w w' : World} {e : Ending} (h : RatOf (decide (q.num < 0)) q.num.natAbs q.den w e w') : NewRat q w e w' := h
theorem NewInt.intOf {z : Int} {w w' : World} {e : Ending} (h : NewInt z w e w') : IntOf (decide (z < 0)) z.natAbs w e w' := h

theorem RatOf.base {s : Bool} {n m : Nat} {W w1 w2 : World} {e : Ending} (h : RatOf s n m w1 e w2) (hx : Ext W w1) : RatOf s n m W e w2 := by
  obtain ⟨a, c, a', c', he, hr, hf, hr', hf', hx'⟩ := h
  exact ⟨a, c, a', c', he, hr, hf.mono hx.size, hr', hf'.mono hx.size, hx.trans hx'⟩
/-- .. and true. -/
def RatOfOk (s : Bool) (n m : Nat) (w : World) (e : Ending) (w' : World) : Prop := ∃ a c a' c', e = .returned (.tuple #[.agg #[.bool s, .slice a (len n) c, .slice a' (len m) c'], .bool true]) ∧ Raw w' a (len n) c n ∧ Fr w.heap.size a ∧ Raw w' a' (len m) c' m ∧ Fr w.heap.size a' ∧ Ext w w'
theorem RatOf.ok {s : Bool} {n m : Nat} {w w' : World} {a a' : Option Addr} {c c' : Nat} (h : RatOf s n m w (.returned (.agg #[.bool s, .slice a (len n) c, .slice a' (len m) c'])) w') : RatOfOk s n m w (.returned (.tuple #[.agg #[.bool s, .slice a (len n) c, .slice a' (len m) c'], .bool true])) w' := by
  obtain ⟨a1, c1, a2, c2, he, hr, hf, hr', hf', hx⟩ := h
  cases he
  exact ⟨_, _, _, _, rfl, hr, hf, hr', hf', hx⟩
theorem RatOf.touch' {s : Bool} {n m : Nat} {w W w1 w2 w3 : World} {e : Ending} (h : RatOf s n m w1 e w2) (hW : Ext w W) (h1 : Ext W w1) (t : Touch w.heap.size W.heap.size w2 w3) : RatOf s n m w e w3 := by
  obtain ⟨a, c, a', c', he, hr, hf, hr', hf', hx⟩ := h
  exact ⟨a, c, a', c', he, hr.touch t (hf.mono h1.size).out, hf.mono (Nat.le_trans hW.size h1.size), hr'.touch t (hf'.mono h1.size).out, hf'.mono (Nat.le_trans hW.size h1.size), hW.touch (h1.trans hx) t⟩
theorem RatOf.touch {s : Bool} {n m : Nat} {w W w2 w3 : World} {e : Ending} (h : RatOf s n m W e w2) (hW : Ext w W) (t : Touch w.heap.size W.heap.size w2 w3) : RatOf s n m w e w3 := by
  obtain ⟨a, c, a', c', he, hr, hf, hr', hf', hx⟩ := h
  exact ⟨a, c, a', c', he, hr.touch t hf.out, hf.mono hW.size, hr'.touch t hf'.out, hf'.mono hW.size, hW.touch hx t⟩
theorem IntOf.touch {s : Bool} {n : Nat} {w W w2 w3 : World} {e : Ending} (h : IntOf s n W e w2) (hW : Ext w W) (t : Touch w.heap.size W.heap.size w2 w3) : IntOf s n w e w3 := by
  obtain ⟨a, c, he, hr, hf, hx⟩ := h
  exact ⟨a, c, he, hr.touch t hf.out, hf.mono hW.size, hW.touch hx t⟩
theorem IntOf.base {s : Bool} {n : Nat} {W w1 w2 : World} {e : Ending} (h : IntOf s n w1 e w2) (hx : Ext W w1) : IntOf s n W e w2 := by
  obtain ⟨a, c, he, hr, hf, hx'⟩ := h
  exact ⟨a, c, he, hr, hf.mono hx.size, hx.trans hx'⟩

set_option maxHeartbeats 400000 in
set_option maxRecDepth 100000 in
/-- ref03.Norm. -/
theorem r3_Norm (w : World) (s : Bool) (a b : Option Addr) (k c j d n m : Nat) (h : Raw w a k c n) (g : Raw w b j d m) (b1 : k < 200000000) (b2 : j < 200000000) :
    Calls Tryz.prog 74 #[.agg #[.bool s, .slice a k c, .slice b j d]] w (NewRat (mkRat (sgn s n) m) w) := by
  have hM : ∀ V, Ext w V → Calls Tryz.prog 75 #[.agg #[.bool s, .slice a k c], .agg #[.bool false, .slice b j d]] V (NewRat (mkRat (sgn s n) m) V) := by
    intro V hV
    have := r3_Make V s false a b k c j d n m (h.ext hV) (g.ext hV) (by omega) (by omega)
    rw [Bool.bne_false] at this
    exact this
  have HM := Lib.hid hM; clear hM
  go_enter Tryz.func74, Tryz.ntmps74
  go_wp2_with fail
  obtain ⟨W, hW, x0, Z0, A0, A1⟩ := boxes2 w 55 [.bool s, .slice a k c, .slice b j d] 55 [.bool false, .slice none 0 0, .slice none 0 0]
  rw [← hW]
  clear hW
  obtain ⟨k0_0, k0_1, k0_2, f0_0, f0_1, f0_2⟩ := box3 A0 (Ext.refl _)
  have z0 := (A0.ext (Ext.refl _)).lt
  obtain ⟨k1_0, k1_1, k1_2, f1_0, f1_1, f1_2⟩ := box3 A1 (Ext.refl _)
  have z1 := (A1.ext (Ext.refl _)).lt
  refine (HM.out _ x0).mono ?_
  intro e w1 hN
  obtain ⟨a1, c1, a2, c2, rfl, r1, f1, r2, f2, x1⟩ := id hN
  obtain ⟨k0_0, k0_1, k0_2, f0_0, f0_1, f0_2⟩ := box3 A0 x1
  have z0 := (A0.ext x1).lt
  obtain ⟨k1_0, k1_1, k1_2, f1_0, f1_1, f1_2⟩ := box3 A1 x1
  have z1 := (A1.ext x1).lt
  go_wp2_with fail
  exact bodyPost_ret (by simp [results, Tryz.results74, go_sem, k1_0, k1_1, k1_2]) rfl (NewRat.touch hN x0 (Touch.three _ (by omega) (by rw [Z0.out]; omega) _ _ _))

set_option maxHeartbeats 400000 in
set_option maxRecDepth 100000 in
/-- ref03.den, over what Norm gives. -/
theorem r3_den_walk (w : World) (s : Bool) (a b : Option Addr) (k c j d _n _m : Nat) (sP : Bool) (nP dP : Nat) (hN : ∀ V, Ext w V → Calls Tryz.prog 74 #[.agg #[.bool s, .slice a k c, .slice b j d]] V (RatOf sP nP dP V)) :
    Calls Tryz.prog 78 #[.agg #[.bool s, .slice a k c, .slice b j d]] w (IntOf false dP w) := by
  have HN := Lib.hid hN; clear hN
  have fd1 := Tryz.rat_den
  go_enter Tryz.func78, Tryz.ntmps78
  go_wp2_with fail
  obtain ⟨W, hW, x0, Z0, A0, A1⟩ := boxes2 w 55 [.bool s, .slice a k c, .slice b j d] 53 [.bool false, .slice none 0 0]
  rw [← hW]
  clear hW
  obtain ⟨k0_0, k0_1, k0_2, f0_0, f0_1, f0_2⟩ := box3 A0 (Ext.refl _)
  have z0 := (A0.ext (Ext.refl _)).lt
  obtain ⟨k1_0, k1_1, f1_0, f1_1⟩ := box2 A1 (Ext.refl _)
  have z1 := (A1.ext (Ext.refl _)).lt
  refine (HN.out _ x0).mono ?_
  rintro e w1 ⟨a1, c1, a2, c2, rfl, r1, f1, r2, f2, x1⟩
  obtain ⟨k0_0, k0_1, k0_2, f0_0, f0_1, f0_2⟩ := box3 A0 x1
  have z0 := (A0.ext x1).lt
  obtain ⟨k1_0, k1_1, f1_0, f1_1⟩ := box2 A1 x1
  have z1 := (A1.ext x1).lt
  go_wp2_with fail
  have fin : IntOf false dP W (.returned (.agg #[.bool false, .slice a2 (len dP) c2])) w1 := ⟨_, _, rfl, r2, f2, x1⟩
  exact bodyPost_ret (by simp [results, Tryz.results78, go_sem, k1_0, k1_1]) rfl (IntOf.touch fin x0 (Touch.two _ (by omega) (by rw [Z0.out]; omega) _ _))
/-- ref03.den. -/
theorem r3_den (w : World) (s : Bool) (a b : Option Addr) (k c j d n m : Nat) (h : Raw w a k c n) (g : Raw w b j d m) (b1 : k < 200000000) (b2 : j < 200000000) :
    Calls Tryz.prog 78 #[.agg #[.bool s, .slice a k c, .slice b j d]] w (IntOf false (mkRat (sgn s n) m).den w) :=
  r3_den_walk w s a b k c j d n m (decide ((mkRat (sgn s n) m).num < 0)) (mkRat (sgn s n) m).num.natAbs (mkRat (sgn s n) m).den (fun V hV => (r3_Norm V s a b k c j d n m (h.ext hV) (g.ext hV) b1 b2).mono (fun _ _ hh => hh.ratOf))

set_option maxHeartbeats 400000 in
set_option maxRecDepth 100000 in
theorem r3_Sign_walk (w : World) (s : Bool) (a b : Option Addr) (k c j d _n _m : Nat) (sP : Bool) (nP dP : Nat) (z : Int) (hN : ∀ V, Ext w V → Calls Tryz.prog 74 #[.agg #[.bool s, .slice a k c, .slice b j d]] V (RatOf sP nP dP V))
    (hS : ∀ V a c, Raw V a (len nP) c nP → Calls Tryz.prog 93 #[.agg #[.bool sP, .slice a (len nP) c]] V fun e w' => e = .returned (.int .i64 z) ∧ Ext V w') :
    Calls Tryz.prog 43 #[.agg #[.bool s, .slice a k c, .slice b j d]] w fun e w' => e = .returned (.int .i64 z) ∧ Ext w w' := by
  have HN := Lib.hid hN; have HS := Lib.hid hS; clear hN hS
  have fd0 := Tryz.rat_num
  go_enter Tryz.func43, Tryz.ntmps43
  go_wp2_with fail
  obtain ⟨W, hW, x0, Z0, A0⟩ := boxes1 w 55 [.bool s, .slice a k c, .slice b j d]
  rw [← hW]
  clear hW
  obtain ⟨k0_0, k0_1, k0_2, f0_0, f0_1, f0_2⟩ := box3 A0 (Ext.refl _)
  have z0 := (A0.ext (Ext.refl _)).lt
  refine (HN.out _ x0).mono ?_
  rintro e w1 ⟨a1, c1, a2, c2, rfl, r1, f1, r2, f2, x1⟩
  go_wp2_with fail
  refine (HS.out _ _ _ r1).mono ?_
  rintro e w2 ⟨rfl, x2⟩
  go_wp2_with fail
  go_ret
  exact ⟨rfl, (x0.trans x1).trans x2⟩
/-- ref03.Sign. -/
theorem r3_Sign (w : World) (s : Bool) (a b : Option Addr) (k c j d n m : Nat) (h : Raw w a k c n) (g : Raw w b j d m) (b1 : k < 200000000) (b2 : j < 200000000) :
    Calls Tryz.prog 43 #[.agg #[.bool s, .slice a k c, .slice b j d]] w fun e w' => e = .returned (.int .i64 (mkRat (sgn s n) m).num.sign) ∧ Ext w w' :=
  r3_Sign_walk w s a b k c j d n m (decide ((mkRat (sgn s n) m).num < 0)) (mkRat (sgn s n) m).num.natAbs (mkRat (sgn s n) m).den _ (fun V hV => (r3_Norm V s a b k c j d n m (h.ext hV) (g.ext hV) b1 b2).mono (fun _ _ hh => hh.ratOf))
    (fun V a c hR => by
      have := r2_Sign V (decide ((mkRat (sgn s n) m).num < 0)) a _ c _ hR
      rw [sgn_dec] at this
      exact this)

set_option maxHeartbeats 400000 in
theorem r3_FromInt_walk (w : World) (x : Int) (s1 s2 s : Bool) (n1 n2 n m : Nat) (h1 : ∀ V, Calls Tryz.prog 79 #[.int .i64 x] V (IntOf s1 n1 V)) (h2 : ∀ V, Calls Tryz.prog 79 #[.int .i64 1] V (IntOf s2 n2 V))
    (h3 : ∀ V a c b d, Raw V a (len n1) c n1 → Raw V b (len n2) d n2 → Calls Tryz.prog 75 #[.agg #[.bool s1, .slice a (len n1) c], .agg #[.bool s2, .slice b (len n2) d]] V (RatOf s n m V)) :
    Calls Tryz.prog 32 #[.int .i64 x] w (RatOf s n m w) := by
  have H1 := Lib.hid h1; have H2 := Lib.hid h2; have H3 := Lib.hid h3; clear h1 h2 h3
  go_enter Tryz.func32, Tryz.ntmps32
  go_wp2_with fail
  obtain ⟨W, hW, x0, Z0, A0⟩ := boxes1 w 55 [.bool false, .slice none 0 0, .slice none 0 0]
  rw [← hW]
  clear hW
  obtain ⟨k0_0, k0_1, k0_2, f0_0, f0_1, f0_2⟩ := box3 A0 (Ext.refl _)
  have z0 := (A0.ext (Ext.refl _)).lt
  refine (H1.out _).mono ?_
  rintro e w1 ⟨a1, c1, rfl, r1, f1, x1⟩
  obtain ⟨k0_0, k0_1, k0_2, f0_0, f0_1, f0_2⟩ := box3 A0 x1
  have z0 := (A0.ext x1).lt
  go_wp2_with fail
  refine (H2.out _).mono ?_
  rintro e w2 ⟨a2, c2, rfl, r2, f2, x2⟩
  obtain ⟨k0_0, k0_1, k0_2, f0_0, f0_1, f0_2⟩ := box3 A0 (x1.trans x2)
  have z0 := (A0.ext (x1.trans x2)).lt
  go_wp2_with fail
  refine (H3.out _ _ _ _ _ (r1.ext x2) r2).mono ?_
  intro e w3 hN
  obtain ⟨a3, c3, a4, c4, rfl, r3, f3, r4, f4, x3⟩ := id hN
  obtain ⟨k0_0, k0_1, k0_2, f0_0, f0_1, f0_2⟩ := box3 A0 ((x1.trans x2).trans x3)
  have z0 := (A0.ext ((x1.trans x2).trans x3)).lt
  go_wp2_with fail
  exact bodyPost_ret (by simp [results, Tryz.results32, go_sem, k0_0, k0_1, k0_2]) rfl (RatOf.touch (hN.base (x1.trans x2)) x0 (Touch.three _ (by omega) (by rw [Z0.out]; omega) _ _ _))

/-- ref03.FromInt. -/
theorem r3_FromInt (w : World) (x : Int) (h1 : -9223372036854775808 ≤ x) (h2 : x ≤ 9223372036854775807) :
    Calls Tryz.prog 32 #[.int .i64 x] w (NewRat (x : Rat) w) :=
  r3_FromInt_walk w x _ _ _ _ _ _ _ (fun V => r2_FromInt V x h1 h2) (fun V => r2_FromInt V 1 (by decide) (by decide))
    (fun V a c b d hR hR' => by
      have := r3_Make V (decide (x < 0)) (decide ((1 : Int) < 0)) a b _ c _ d _ _ hR hR' (by have := len_natAbs_i64 h1 h2; omega) (by decide)
      rw [show decide ((1 : Int) < 0) = false from rfl, Bool.bne_false, sgn_dec, show (Int.natAbs 1) = 1 from rfl, Rat.mkRat_one] at this
      exact this)

set_option maxHeartbeats 400000 in
theorem r3_Of_walk (w : World) (x y : Int) (s1 s2 s : Bool) (n1 n2 n m : Nat) (h1 : ∀ V, Calls Tryz.prog 79 #[.int .i64 x] V (IntOf s1 n1 V)) (h2 : ∀ V, Calls Tryz.prog 79 #[.int .i64 y] V (IntOf s2 n2 V))
    (h3 : ∀ V a c b d, Raw V a (len n1) c n1 → Raw V b (len n2) d n2 → Calls Tryz.prog 75 #[.agg #[.bool s1, .slice a (len n1) c], .agg #[.bool s2, .slice b (len n2) d]] V (RatOf s n m V)) :
    Calls Tryz.prog 39 #[.int .i64 x, .int .i64 y] w (RatOf s n m w) := by
  have H1 := Lib.hid h1; have H2 := Lib.hid h2; have H3 := Lib.hid h3; clear h1 h2 h3
  go_enter Tryz.func39, Tryz.ntmps39
  go_wp2_with fail
  obtain ⟨W, hW, x0, Z0, A0⟩ := boxes1 w 55 [.bool false, .slice none 0 0, .slice none 0 0]
  rw [← hW]
  clear hW
  obtain ⟨k0_0, k0_1, k0_2, f0_0, f0_1, f0_2⟩ := box3 A0 (Ext.refl _)
  have z0 := (A0.ext (Ext.refl _)).lt
  refine (H1.out _).mono ?_
  rintro e w1 ⟨a1, c1, rfl, r1, f1, x1⟩
  obtain ⟨k0_0, k0_1, k0_2, f0_0, f0_1, f0_2⟩ := box3 A0 x1
  have z0 := (A0.ext x1).lt
  go_wp2_with fail
  refine (H2.out _).mono ?_
  rintro e w2 ⟨a2, c2, rfl, r2, f2, x2⟩
  obtain ⟨k0_0, k0_1, k0_2, f0_0, f0_1, f0_2⟩ := box3 A0 (x1.trans x2)
  have z0 := (A0.ext (x1.trans x2)).lt
  go_wp2_with fail
  refine (H3.out _ _ _ _ _ (r1.ext x2) r2).mono ?_
  intro e w3 hN
  obtain ⟨a3, c3, a4, c4, rfl, r3, f3, r4, f4, x3⟩ := id hN
  obtain ⟨k0_0, k0_1, k0_2, f0_0, f0_1, f0_2⟩ := box3 A0 ((x1.trans x2).trans x3)
  have z0 := (A0.ext ((x1.trans x2).trans x3)).lt
  go_wp2_with fail
  exact bodyPost_ret (by simp [results, Tryz.results39, go_sem, k0_0, k0_1, k0_2]) rfl (RatOf.touch (hN.base (x1.trans x2)) x0 (Touch.three _ (by omega) (by rw [Z0.out]; omega) _ _ _))

/-- ref03.Of. -/
theorem r3_Of (w : World) (x : Int) (y : Nat) (h1 : -9223372036854775808 ≤ x) (h2 : x ≤ 9223372036854775807) (h3 : y ≤ 9223372036854775807) :
    Calls Tryz.prog 39 #[.int .i64 x, .int .i64 (y : Nat)] w (NewRat (mkRat x y) w) :=
  r3_Of_walk w x y _ _ _ _ _ _ _ (fun V => r2_FromInt V x h1 h2) (fun V => r2_FromInt V y (by omega) (by omega))
    (fun V a c b d hR hR' => by
      have := r3_Make V (decide (x < 0)) (decide ((y : Int) < 0)) a b _ c _ d _ _ hR hR' (by have := len_natAbs_i64 h1 h2; omega) (by have := len_natAbs_i64 (z := (y : Int)) (by omega) (by omega); omega)
      rw [decide_eq_false (show ¬ (y : Int) < 0 by omega), Bool.bne_false, sgn_dec, Int.natAbs_natCast] at this
      rw [decide_eq_false (show ¬ (y : Int) < 0 by omega), Int.natAbs_natCast]
      exact this)

set_option maxHeartbeats 2000000 in
set_option maxRecDepth 100000 in
/-- ref03.Neg, over its callees. -/
theorem r3_Neg_walk (w : World) (s : Bool) (a b : Option Addr) (k c j d : Nat) (sP s1 sR : Bool) (nP dP n1 nR dR : Nat) (hN : ∀ V, Ext w V → Calls Tryz.prog 74 #[.agg #[.bool s, .slice a k c, .slice b j d]] V (RatOf sP nP dP V)) (hD : ∀ V, Ext w V → Calls Tryz.prog 78 #[.agg #[.bool s, .slice a k c, .slice b j d]] V (IntOf false dP V)) (hI : ∀ V a c, Raw V a (len nP) c nP → Calls Tryz.prog 89 #[.agg #[.bool sP, .slice a (len nP) c]] V (IntOf s1 n1 V)) (hM : ∀ V a c b d, Raw V a (len n1) c n1 → Raw V b (len dP) d dP → Calls Tryz.prog 75 #[.agg #[.bool s1, .slice a (len n1) c], .agg #[.bool false, .slice b (len dP) d]] V (RatOf sR nR dR V)) :
    Calls Tryz.prog 37 #[.agg #[.bool s, .slice a k c, .slice b j d]] w (RatOf sR nR dR w) := by
  have HN := Lib.hid hN; have HD := Lib.hid hD; have HI := Lib.hid hI; have HM := Lib.hid hM; clear hN hD hI hM
  have fd0 := Tryz.rat_num
  have fd1 := Tryz.rat_den
  go_enter Tryz.func37, Tryz.ntmps37
  go_wp2_with fail
  obtain ⟨W, hW, x0, Z0, A0, A1⟩ := boxes2 w 55 [.bool s, .slice a k c, .slice b j d] 55 [.bool false, .slice none 0 0, .slice none 0 0]
  rw [← hW]
  clear hW
  obtain ⟨k0_0, k0_1, k0_2, f0_0, f0_1, f0_2⟩ := box3 A0 (Ext.refl _)
  have z0 := (A0.ext (Ext.refl _)).lt
  obtain ⟨k1_0, k1_1, k1_2, f1_0, f1_1, f1_2⟩ := box3 A1 (Ext.refl _)
  have z1 := (A1.ext (Ext.refl _)).lt
  go_region_held3 (fun w' => w'.cell? ⟨w.heap.size, 0, none⟩ = some (.bool s) ∧ w'.cell? ⟨w.heap.size, 1, none⟩ = some (.slice a k c) ∧ w'.cell? ⟨w.heap.size, 2, none⟩ = some (.slice b j d)) (first | exact ⟨k0_0, k0_1, k0_2⟩ | (simp [go_sem, k0_0, k0_1, k0_2])) (first
    | (go_at_call 74; refine (HN.out _ (by exact x0.trans ((Ext.refl _).drew))).mono ?_; rintro e w1 ⟨a1, c1, b1, d1, rfl, r1, f1, q1, g1, x1⟩; obtain ⟨k0_0, k0_1, k0_2, f0_0, f0_1, f0_2⟩ := box3 A0 (((Ext.refl _).drew).trans x1); have z0 := (A0.ext (((Ext.refl _).drew).trans x1)).lt; obtain ⟨k1_0, k1_1, k1_2, f1_0, f1_1, f1_2⟩ := box3 A1 (((Ext.refl _).drew).trans x1); have z1 := (A1.ext (((Ext.refl _).drew).trans x1)).lt)
    | (go_at_call 89; refine (HI.out _ _ _ r1).mono ?_; rintro e w2 ⟨a2, c2, rfl, r2, f2, x2⟩; obtain ⟨k0_0, k0_1, k0_2, f0_0, f0_1, f0_2⟩ := box3 A0 ((((Ext.refl _).drew).trans x1).trans x2); have z0 := (A0.ext ((((Ext.refl _).drew).trans x1).trans x2)).lt; obtain ⟨k1_0, k1_1, k1_2, f1_0, f1_1, f1_2⟩ := box3 A1 ((((Ext.refl _).drew).trans x1).trans x2); have z1 := (A1.ext ((((Ext.refl _).drew).trans x1).trans x2)).lt)
    | (go_at_call 78; refine (HD.out _ (by exact x0.trans ((((Ext.refl _).drew).trans x1).trans x2))).mono ?_; rintro e w3 ⟨a3, c3, rfl, r3, f3, x3⟩; obtain ⟨k0_0, k0_1, k0_2, f0_0, f0_1, f0_2⟩ := box3 A0 (((((Ext.refl _).drew).trans x1).trans x2).trans x3); have z0 := (A0.ext (((((Ext.refl _).drew).trans x1).trans x2).trans x3)).lt; obtain ⟨k1_0, k1_1, k1_2, f1_0, f1_1, f1_2⟩ := box3 A1 (((((Ext.refl _).drew).trans x1).trans x2).trans x3); have z1 := (A1.ext (((((Ext.refl _).drew).trans x1).trans x2).trans x3)).lt)
    | (go_at_call 75; refine (HM.out _ _ _ _ _ (r2.ext x3) r3).mono ?_; intro e w4 hfin; obtain ⟨a4, c4, b4, d4, rfl, r4, f4, q4, g4, x4⟩ := id hfin; obtain ⟨k0_0, k0_1, k0_2, f0_0, f0_1, f0_2⟩ := box3 A0 ((((((Ext.refl _).drew).trans x1).trans x2).trans x3).trans x4); have z0 := (A0.ext ((((((Ext.refl _).drew).trans x1).trans x2).trans x3).trans x4)).lt; obtain ⟨k1_0, k1_1, k1_2, f1_0, f1_1, f1_2⟩ := box3 A1 ((((((Ext.refl _).drew).trans x1).trans x2).trans x3).trans x4); have z1 := (A1.ext ((((((Ext.refl _).drew).trans x1).trans x2).trans x3).trans x4)).lt))
  go_wp2_with fail
  exact bodyPost_ret (by simp [results, Tryz.results37, go_sem, k1_0, k1_1, k1_2]) rfl (RatOf.touch (hfin.base ((x1.trans x2).trans x3)) x0.drew (Touch.three _ (by omega) (by rw [World.drew, Z0.out]; omega) _ _ _))

set_option maxHeartbeats 2000000 in
set_option maxRecDepth 100000 in
/-- ref03.Mul, over its callees. -/
theorem r3_Mul_walk (w : World) (s : Bool) (a b : Option Addr) (k c j d : Nat) (s' : Bool) (a' b' : Option Addr) (k' c' j' d' : Nat) (sP sQ s1 s2 sR : Bool) (nP dP nQ dQ n1 n2 nR dR : Nat) (hN : ∀ V, Ext w V → Calls Tryz.prog 74 #[.agg #[.bool s, .slice a k c, .slice b j d]] V (RatOf sP nP dP V)) (hN' : ∀ V, Ext w V → Calls Tryz.prog 74 #[.agg #[.bool s', .slice a' k' c', .slice b' j' d']] V (RatOf sQ nQ dQ V)) (hD : ∀ V, Ext w V → Calls Tryz.prog 78 #[.agg #[.bool s, .slice a k c, .slice b j d]] V (IntOf false dP V)) (hD' : ∀ V, Ext w V → Calls Tryz.prog 78 #[.agg #[.bool s', .slice a' k' c', .slice b' j' d']] V (IntOf false dQ V)) (hX : ∀ V a c b d, Raw V a (len nP) c nP → Raw V b (len nQ) d nQ → Calls Tryz.prog 77 #[.agg #[.bool sP, .slice a (len nP) c], .agg #[.bool sQ, .slice b (len nQ) d]] V (IntOf s1 n1 V)) (hY : ∀ V a c b d, Raw V a (len dP) c dP → Raw V b (len dQ) d dQ → Calls Tryz.prog 77 #[.agg #[.bool false, .slice a (len dP) c], .agg #[.bool false, .slice b (len dQ) d]] V (IntOf s2 n2 V)) (hM : ∀ V a c b d, Raw V a (len n1) c n1 → Raw V b (len n2) d n2 → Calls Tryz.prog 75 #[.agg #[.bool s1, .slice a (len n1) c], .agg #[.bool s2, .slice b (len n2) d]] V (RatOf sR nR dR V)) :
    Calls Tryz.prog 31 #[.agg #[.bool s, .slice a k c, .slice b j d], .agg #[.bool s', .slice a' k' c', .slice b' j' d']] w (RatOf sR nR dR w) := by
  have HN := Lib.hid hN; have HN' := Lib.hid hN'; have HD := Lib.hid hD; have HD' := Lib.hid hD'; have HX := Lib.hid hX; have HY := Lib.hid hY; have HM := Lib.hid hM; clear hN hN' hD hD' hX hY hM
  have fd0 := Tryz.rat_num
  have fd1 := Tryz.rat_den
  go_enter Tryz.func31, Tryz.ntmps31
  go_wp2_with fail
  obtain ⟨W, hW, x0, Z0, A0, A1, A2⟩ := boxes3 w 55 [.bool s, .slice a k c, .slice b j d] 55 [.bool s', .slice a' k' c', .slice b' j' d'] 55 [.bool false, .slice none 0 0, .slice none 0 0]
  rw [← hW]
  clear hW
  obtain ⟨k0_0, k0_1, k0_2, f0_0, f0_1, f0_2⟩ := box3 A0 (Ext.refl _)
  have z0 := (A0.ext (Ext.refl _)).lt
  obtain ⟨k1_0, k1_1, k1_2, f1_0, f1_1, f1_2⟩ := box3 A1 (Ext.refl _)
  have z1 := (A1.ext (Ext.refl _)).lt
  obtain ⟨k2_0, k2_1, k2_2, f2_0, f2_1, f2_2⟩ := box3 A2 (Ext.refl _)
  have z2 := (A2.ext (Ext.refl _)).lt
  have tk1 : True := trivial
  have tk3 : True := trivial
  have tk4 : True := trivial
  go_region_held3 (fun w' => w'.cell? ⟨w.heap.size, 0, none⟩ = some (.bool s) ∧ w'.cell? ⟨w.heap.size, 1, none⟩ = some (.slice a k c) ∧ w'.cell? ⟨w.heap.size, 2, none⟩ = some (.slice b j d) ∧ w'.cell? ⟨w.heap.size + 1, 0, none⟩ = some (.bool s') ∧ w'.cell? ⟨w.heap.size + 1, 1, none⟩ = some (.slice a' k' c') ∧ w'.cell? ⟨w.heap.size + 1, 2, none⟩ = some (.slice b' j' d')) (first | exact ⟨k0_0, k0_1, k0_2, k1_0, k1_1, k1_2⟩ | (simp [go_sem, k0_0, k0_1, k0_2, k1_0, k1_1, k1_2])) (first
    | (go_at_call 74; have _t := tk1; refine (HN.out _ (by exact x0.trans ((Ext.refl _).drew))).mono ?_; rintro e w1 ⟨a1, c1, b1, d1, rfl, r1, f1, q1, g1, x1⟩; clear tk1 _t; obtain ⟨k0_0, k0_1, k0_2, f0_0, f0_1, f0_2⟩ := box3 A0 (((Ext.refl _).drew).trans x1); have z0 := (A0.ext (((Ext.refl _).drew).trans x1)).lt; obtain ⟨k1_0, k1_1, k1_2, f1_0, f1_1, f1_2⟩ := box3 A1 (((Ext.refl _).drew).trans x1); have z1 := (A1.ext (((Ext.refl _).drew).trans x1)).lt; obtain ⟨k2_0, k2_1, k2_2, f2_0, f2_1, f2_2⟩ := box3 A2 (((Ext.refl _).drew).trans x1); have z2 := (A2.ext (((Ext.refl _).drew).trans x1)).lt)
    | (go_at_call 74; refine (HN'.out _ (by exact x0.trans (((Ext.refl _).drew).trans x1))).mono ?_; rintro e w2 ⟨a2, c2, b2, d2, rfl, r2, f2, q2, g2, x2⟩; obtain ⟨k0_0, k0_1, k0_2, f0_0, f0_1, f0_2⟩ := box3 A0 ((((Ext.refl _).drew).trans x1).trans x2); have z0 := (A0.ext ((((Ext.refl _).drew).trans x1).trans x2)).lt; obtain ⟨k1_0, k1_1, k1_2, f1_0, f1_1, f1_2⟩ := box3 A1 ((((Ext.refl _).drew).trans x1).trans x2); have z1 := (A1.ext ((((Ext.refl _).drew).trans x1).trans x2)).lt; obtain ⟨k2_0, k2_1, k2_2, f2_0, f2_1, f2_2⟩ := box3 A2 ((((Ext.refl _).drew).trans x1).trans x2); have z2 := (A2.ext ((((Ext.refl _).drew).trans x1).trans x2)).lt)
    | (go_at_call 77; have _t := tk3; refine (HX.out _ _ _ _ _ (r1.ext x2) r2).mono ?_; rintro e w3 ⟨a3, c3, rfl, r3, f3, x3⟩; clear tk3 _t; obtain ⟨k0_0, k0_1, k0_2, f0_0, f0_1, f0_2⟩ := box3 A0 (((((Ext.refl _).drew).trans x1).trans x2).trans x3); have z0 := (A0.ext (((((Ext.refl _).drew).trans x1).trans x2).trans x3)).lt; obtain ⟨k1_0, k1_1, k1_2, f1_0, f1_1, f1_2⟩ := box3 A1 (((((Ext.refl _).drew).trans x1).trans x2).trans x3); have z1 := (A1.ext (((((Ext.refl _).drew).trans x1).trans x2).trans x3)).lt; obtain ⟨k2_0, k2_1, k2_2, f2_0, f2_1, f2_2⟩ := box3 A2 (((((Ext.refl _).drew).trans x1).trans x2).trans x3); have z2 := (A2.ext (((((Ext.refl _).drew).trans x1).trans x2).trans x3)).lt)
    | (go_at_call 78; have _t := tk4; refine (HD.out _ (by exact x0.trans (((((Ext.refl _).drew).trans x1).trans x2).trans x3))).mono ?_; rintro e w4 ⟨a4, c4, rfl, r4, f4, x4⟩; clear tk4 _t; obtain ⟨k0_0, k0_1, k0_2, f0_0, f0_1, f0_2⟩ := box3 A0 ((((((Ext.refl _).drew).trans x1).trans x2).trans x3).trans x4); have z0 := (A0.ext ((((((Ext.refl _).drew).trans x1).trans x2).trans x3).trans x4)).lt; obtain ⟨k1_0, k1_1, k1_2, f1_0, f1_1, f1_2⟩ := box3 A1 ((((((Ext.refl _).drew).trans x1).trans x2).trans x3).trans x4); have z1 := (A1.ext ((((((Ext.refl _).drew).trans x1).trans x2).trans x3).trans x4)).lt; obtain ⟨k2_0, k2_1, k2_2, f2_0, f2_1, f2_2⟩ := box3 A2 ((((((Ext.refl _).drew).trans x1).trans x2).trans x3).trans x4); have z2 := (A2.ext ((((((Ext.refl _).drew).trans x1).trans x2).trans x3).trans x4)).lt)
    | (go_at_call 78; refine (HD'.out _ (by exact x0.trans ((((((Ext.refl _).drew).trans x1).trans x2).trans x3).trans x4))).mono ?_; rintro e w5 ⟨a5, c5, rfl, r5, f5, x5⟩; obtain ⟨k0_0, k0_1, k0_2, f0_0, f0_1, f0_2⟩ := box3 A0 (((((((Ext.refl _).drew).trans x1).trans x2).trans x3).trans x4).trans x5); have z0 := (A0.ext (((((((Ext.refl _).drew).trans x1).trans x2).trans x3).trans x4).trans x5)).lt; obtain ⟨k1_0, k1_1, k1_2, f1_0, f1_1, f1_2⟩ := box3 A1 (((((((Ext.refl _).drew).trans x1).trans x2).trans x3).trans x4).trans x5); have z1 := (A1.ext (((((((Ext.refl _).drew).trans x1).trans x2).trans x3).trans x4).trans x5)).lt; obtain ⟨k2_0, k2_1, k2_2, f2_0, f2_1, f2_2⟩ := box3 A2 (((((((Ext.refl _).drew).trans x1).trans x2).trans x3).trans x4).trans x5); have z2 := (A2.ext (((((((Ext.refl _).drew).trans x1).trans x2).trans x3).trans x4).trans x5)).lt)
    | (go_at_call 77; refine (HY.out _ _ _ _ _ (r4.ext x5) r5).mono ?_; rintro e w6 ⟨a6, c6, rfl, r6, f6, x6⟩; obtain ⟨k0_0, k0_1, k0_2, f0_0, f0_1, f0_2⟩ := box3 A0 ((((((((Ext.refl _).drew).trans x1).trans x2).trans x3).trans x4).trans x5).trans x6); have z0 := (A0.ext ((((((((Ext.refl _).drew).trans x1).trans x2).trans x3).trans x4).trans x5).trans x6)).lt; obtain ⟨k1_0, k1_1, k1_2, f1_0, f1_1, f1_2⟩ := box3 A1 ((((((((Ext.refl _).drew).trans x1).trans x2).trans x3).trans x4).trans x5).trans x6); have z1 := (A1.ext ((((((((Ext.refl _).drew).trans x1).trans x2).trans x3).trans x4).trans x5).trans x6)).lt; obtain ⟨k2_0, k2_1, k2_2, f2_0, f2_1, f2_2⟩ := box3 A2 ((((((((Ext.refl _).drew).trans x1).trans x2).trans x3).trans x4).trans x5).trans x6); have z2 := (A2.ext ((((((((Ext.refl _).drew).trans x1).trans x2).trans x3).trans x4).trans x5).trans x6)).lt)
    | (go_at_call 75; refine (HM.out _ _ _ _ _ (((r3.ext x4).ext x5).ext x6) r6).mono ?_; intro e w7 hfin; obtain ⟨a7, c7, b7, d7, rfl, r7, f7, q7, g7, x7⟩ := id hfin; obtain ⟨k0_0, k0_1, k0_2, f0_0, f0_1, f0_2⟩ := box3 A0 (((((((((Ext.refl _).drew).trans x1).trans x2).trans x3).trans x4).trans x5).trans x6).trans x7); have z0 := (A0.ext (((((((((Ext.refl _).drew).trans x1).trans x2).trans x3).trans x4).trans x5).trans x6).trans x7)).lt; obtain ⟨k1_0, k1_1, k1_2, f1_0, f1_1, f1_2⟩ := box3 A1 (((((((((Ext.refl _).drew).trans x1).trans x2).trans x3).trans x4).trans x5).trans x6).trans x7); have z1 := (A1.ext (((((((((Ext.refl _).drew).trans x1).trans x2).trans x3).trans x4).trans x5).trans x6).trans x7)).lt; obtain ⟨k2_0, k2_1, k2_2, f2_0, f2_1, f2_2⟩ := box3 A2 (((((((((Ext.refl _).drew).trans x1).trans x2).trans x3).trans x4).trans x5).trans x6).trans x7); have z2 := (A2.ext (((((((((Ext.refl _).drew).trans x1).trans x2).trans x3).trans x4).trans x5).trans x6).trans x7)).lt))
  go_wp2_with fail
  exact bodyPost_ret (by simp [results, Tryz.results31, go_sem, k2_0, k2_1, k2_2]) rfl (RatOf.touch (hfin.base (((((x1.trans x2).trans x3).trans x4).trans x5).trans x6)) x0.drew (Touch.three _ (by omega) (by rw [World.drew, Z0.out]; omega) _ _ _))

set_option maxHeartbeats 2000000 in
set_option maxRecDepth 100000 in
/-- ref03.Div by a number other than 0, over its callees. -/
theorem r3_Div_walk (w : World) (s : Bool) (a b : Option Addr) (k c j d : Nat) (s' : Bool) (a' b' : Option Addr) (k' c' j' d' : Nat) (sP sQ s1 s2 sR : Bool) (nP dP nQ dQ n1 n2 nR dR : Nat) (z : Int) (hz : (z == 0) = false) (hS : ∀ V, Ext w V → Calls Tryz.prog 43 #[.agg #[.bool s', .slice a' k' c', .slice b' j' d']] V fun e w' => e = .returned (.int .i64 z) ∧ Ext V w') (hN : ∀ V, Ext w V → Calls Tryz.prog 74 #[.agg #[.bool s, .slice a k c, .slice b j d]] V (RatOf sP nP dP V)) (hN' : ∀ V, Ext w V → Calls Tryz.prog 74 #[.agg #[.bool s', .slice a' k' c', .slice b' j' d']] V (RatOf sQ nQ dQ V)) (hD : ∀ V, Ext w V → Calls Tryz.prog 78 #[.agg #[.bool s, .slice a k c, .slice b j d]] V (IntOf false dP V)) (hD' : ∀ V, Ext w V → Calls Tryz.prog 78 #[.agg #[.bool s', .slice a' k' c', .slice b' j' d']] V (IntOf false dQ V)) (hX : ∀ V a c b d, Raw V a (len nP) c nP → Raw V b (len dQ) d dQ → Calls Tryz.prog 77 #[.agg #[.bool sP, .slice a (len nP) c], .agg #[.bool false, .slice b (len dQ) d]] V (IntOf s1 n1 V)) (hY : ∀ V a c b d, Raw V a (len dP) c dP → Raw V b (len nQ) d nQ → Calls Tryz.prog 77 #[.agg #[.bool false, .slice a (len dP) c], .agg #[.bool sQ, .slice b (len nQ) d]] V (IntOf s2 n2 V)) (hM : ∀ V a c b d, Raw V a (len n1) c n1 → Raw V b (len n2) d n2 → Calls Tryz.prog 75 #[.agg #[.bool s1, .slice a (len n1) c], .agg #[.bool s2, .slice b (len n2) d]] V (RatOf sR nR dR V)) :
    Calls Tryz.prog 158 #[.agg #[.bool s, .slice a k c, .slice b j d], .agg #[.bool s', .slice a' k' c', .slice b' j' d']] w (RatOfOk sR nR dR w) := by
  have HS := Lib.hid hS; have HN := Lib.hid hN; have HN' := Lib.hid hN'; have HD := Lib.hid hD; have HD' := Lib.hid hD'; have HX := Lib.hid hX; have HY := Lib.hid hY; have HM := Lib.hid hM; clear hS hN hN' hD hD' hX hY hM
  have fd0 := Tryz.rat_num
  have fd1 := Tryz.rat_den
  go_enter Tryz.func158, Tryz.ntmps158
  go_wp2_with fail
  obtain ⟨W, hW, x0, Z0, A0, A1, A2⟩ := boxes3 w 55 [.bool s, .slice a k c, .slice b j d] 55 [.bool s', .slice a' k' c', .slice b' j' d'] 55 [.bool false, .slice none 0 0, .slice none 0 0]
  rw [← hW]
  clear hW
  obtain ⟨k0_0, k0_1, k0_2, f0_0, f0_1, f0_2⟩ := box3 A0 (Ext.refl _)
  have z0 := (A0.ext (Ext.refl _)).lt
  obtain ⟨k1_0, k1_1, k1_2, f1_0, f1_1, f1_2⟩ := box3 A1 (Ext.refl _)
  have z1 := (A1.ext (Ext.refl _)).lt
  obtain ⟨k2_0, k2_1, k2_2, f2_0, f2_1, f2_2⟩ := box3 A2 (Ext.refl _)
  have z2 := (A2.ext (Ext.refl _)).lt
  refine (HS.out _ x0).mono ?_
  rintro e v1 ⟨rfl, y1⟩
  obtain ⟨k0_0, k0_1, k0_2, f0_0, f0_1, f0_2⟩ := box3 A0 y1
  have z0 := (A0.ext y1).lt
  obtain ⟨k1_0, k1_1, k1_2, f1_0, f1_1, f1_2⟩ := box3 A1 y1
  have z1 := (A1.ext y1).lt
  obtain ⟨k2_0, k2_1, k2_2, f2_0, f2_1, f2_2⟩ := box3 A2 y1
  have z2 := (A2.ext y1).lt
  go_wp2_with fail
  have tk1 : True := trivial
  have tk2 : True := trivial
  have tk3 : True := trivial
  go_region_held3 (fun w' => w'.cell? ⟨w.heap.size, 0, none⟩ = some (.bool s) ∧ w'.cell? ⟨w.heap.size, 1, none⟩ = some (.slice a k c) ∧ w'.cell? ⟨w.heap.size, 2, none⟩ = some (.slice b j d) ∧ w'.cell? ⟨w.heap.size + 1, 0, none⟩ = some (.bool s') ∧ w'.cell? ⟨w.heap.size + 1, 1, none⟩ = some (.slice a' k' c') ∧ w'.cell? ⟨w.heap.size + 1, 2, none⟩ = some (.slice b' j' d')) (first | exact ⟨k0_0, k0_1, k0_2, k1_0, k1_1, k1_2⟩ | (simp [go_sem, k0_0, k0_1, k0_2, k1_0, k1_1, k1_2])) (first
    | (go_at_call 74; have _t := tk1; refine (HN.out _ (by exact x0.trans (y1.drew))).mono ?_; rintro e w1 ⟨a1, c1, b1, d1, rfl, r1, f1, q1, g1, x1⟩; clear tk1 _t; obtain ⟨k0_0, k0_1, k0_2, f0_0, f0_1, f0_2⟩ := box3 A0 ((y1.drew).trans x1); have z0 := (A0.ext ((y1.drew).trans x1)).lt; obtain ⟨k1_0, k1_1, k1_2, f1_0, f1_1, f1_2⟩ := box3 A1 ((y1.drew).trans x1); have z1 := (A1.ext ((y1.drew).trans x1)).lt; obtain ⟨k2_0, k2_1, k2_2, f2_0, f2_1, f2_2⟩ := box3 A2 ((y1.drew).trans x1); have z2 := (A2.ext ((y1.drew).trans x1)).lt)
    | (go_at_call 78; have _t := tk2; refine (HD'.out _ (by exact x0.trans ((y1.drew).trans x1))).mono ?_; rintro e w2 ⟨a2, c2, rfl, r2, f2, x2⟩; clear tk2 _t; obtain ⟨k0_0, k0_1, k0_2, f0_0, f0_1, f0_2⟩ := box3 A0 (((y1.drew).trans x1).trans x2); have z0 := (A0.ext (((y1.drew).trans x1).trans x2)).lt; obtain ⟨k1_0, k1_1, k1_2, f1_0, f1_1, f1_2⟩ := box3 A1 (((y1.drew).trans x1).trans x2); have z1 := (A1.ext (((y1.drew).trans x1).trans x2)).lt; obtain ⟨k2_0, k2_1, k2_2, f2_0, f2_1, f2_2⟩ := box3 A2 (((y1.drew).trans x1).trans x2); have z2 := (A2.ext (((y1.drew).trans x1).trans x2)).lt)
    | (go_at_call 77; have _t := tk3; refine (HX.out _ _ _ _ _ (r1.ext x2) r2).mono ?_; rintro e w3 ⟨a3, c3, rfl, r3, f3, x3⟩; clear tk3 _t; obtain ⟨k0_0, k0_1, k0_2, f0_0, f0_1, f0_2⟩ := box3 A0 ((((y1.drew).trans x1).trans x2).trans x3); have z0 := (A0.ext ((((y1.drew).trans x1).trans x2).trans x3)).lt; obtain ⟨k1_0, k1_1, k1_2, f1_0, f1_1, f1_2⟩ := box3 A1 ((((y1.drew).trans x1).trans x2).trans x3); have z1 := (A1.ext ((((y1.drew).trans x1).trans x2).trans x3)).lt; obtain ⟨k2_0, k2_1, k2_2, f2_0, f2_1, f2_2⟩ := box3 A2 ((((y1.drew).trans x1).trans x2).trans x3); have z2 := (A2.ext ((((y1.drew).trans x1).trans x2).trans x3)).lt)
    | (go_at_call 78; refine (HD.out _ (by exact x0.trans ((((y1.drew).trans x1).trans x2).trans x3))).mono ?_; rintro e w4 ⟨a4, c4, rfl, r4, f4, x4⟩; obtain ⟨k0_0, k0_1, k0_2, f0_0, f0_1, f0_2⟩ := box3 A0 (((((y1.drew).trans x1).trans x2).trans x3).trans x4); have z0 := (A0.ext (((((y1.drew).trans x1).trans x2).trans x3).trans x4)).lt; obtain ⟨k1_0, k1_1, k1_2, f1_0, f1_1, f1_2⟩ := box3 A1 (((((y1.drew).trans x1).trans x2).trans x3).trans x4); have z1 := (A1.ext (((((y1.drew).trans x1).trans x2).trans x3).trans x4)).lt; obtain ⟨k2_0, k2_1, k2_2, f2_0, f2_1, f2_2⟩ := box3 A2 (((((y1.drew).trans x1).trans x2).trans x3).trans x4); have z2 := (A2.ext (((((y1.drew).trans x1).trans x2).trans x3).trans x4)).lt)
    | (go_at_call 74; refine (HN'.out _ (by exact x0.trans (((((y1.drew).trans x1).trans x2).trans x3).trans x4))).mono ?_; rintro e w5 ⟨a5, c5, b5, d5, rfl, r5, f5, q5, g5, x5⟩; obtain ⟨k0_0, k0_1, k0_2, f0_0, f0_1, f0_2⟩ := box3 A0 ((((((y1.drew).trans x1).trans x2).trans x3).trans x4).trans x5); have z0 := (A0.ext ((((((y1.drew).trans x1).trans x2).trans x3).trans x4).trans x5)).lt; obtain ⟨k1_0, k1_1, k1_2, f1_0, f1_1, f1_2⟩ := box3 A1 ((((((y1.drew).trans x1).trans x2).trans x3).trans x4).trans x5); have z1 := (A1.ext ((((((y1.drew).trans x1).trans x2).trans x3).trans x4).trans x5)).lt; obtain ⟨k2_0, k2_1, k2_2, f2_0, f2_1, f2_2⟩ := box3 A2 ((((((y1.drew).trans x1).trans x2).trans x3).trans x4).trans x5); have z2 := (A2.ext ((((((y1.drew).trans x1).trans x2).trans x3).trans x4).trans x5)).lt)
    | (go_at_call 77; refine (HY.out _ _ _ _ _ (r4.ext x5) r5).mono ?_; rintro e w6 ⟨a6, c6, rfl, r6, f6, x6⟩; obtain ⟨k0_0, k0_1, k0_2, f0_0, f0_1, f0_2⟩ := box3 A0 (((((((y1.drew).trans x1).trans x2).trans x3).trans x4).trans x5).trans x6); have z0 := (A0.ext (((((((y1.drew).trans x1).trans x2).trans x3).trans x4).trans x5).trans x6)).lt; obtain ⟨k1_0, k1_1, k1_2, f1_0, f1_1, f1_2⟩ := box3 A1 (((((((y1.drew).trans x1).trans x2).trans x3).trans x4).trans x5).trans x6); have z1 := (A1.ext (((((((y1.drew).trans x1).trans x2).trans x3).trans x4).trans x5).trans x6)).lt; obtain ⟨k2_0, k2_1, k2_2, f2_0, f2_1, f2_2⟩ := box3 A2 (((((((y1.drew).trans x1).trans x2).trans x3).trans x4).trans x5).trans x6); have z2 := (A2.ext (((((((y1.drew).trans x1).trans x2).trans x3).trans x4).trans x5).trans x6)).lt)
    | (go_at_call 75; refine (HM.out _ _ _ _ _ (((r3.ext x4).ext x5).ext x6) r6).mono ?_; intro e w7 hfin; obtain ⟨a7, c7, b7, d7, rfl, r7, f7, q7, g7, x7⟩ := id hfin; obtain ⟨k0_0, k0_1, k0_2, f0_0, f0_1, f0_2⟩ := box3 A0 ((((((((y1.drew).trans x1).trans x2).trans x3).trans x4).trans x5).trans x6).trans x7); have z0 := (A0.ext ((((((((y1.drew).trans x1).trans x2).trans x3).trans x4).trans x5).trans x6).trans x7)).lt; obtain ⟨k1_0, k1_1, k1_2, f1_0, f1_1, f1_2⟩ := box3 A1 ((((((((y1.drew).trans x1).trans x2).trans x3).trans x4).trans x5).trans x6).trans x7); have z1 := (A1.ext ((((((((y1.drew).trans x1).trans x2).trans x3).trans x4).trans x5).trans x6).trans x7)).lt; obtain ⟨k2_0, k2_1, k2_2, f2_0, f2_1, f2_2⟩ := box3 A2 ((((((((y1.drew).trans x1).trans x2).trans x3).trans x4).trans x5).trans x6).trans x7); have z2 := (A2.ext ((((((((y1.drew).trans x1).trans x2).trans x3).trans x4).trans x5).trans x6).trans x7)).lt))
  go_wp2_with fail
  exact bodyPost_ret (v := .tuple #[.agg #[.bool sR, .slice a7 (len nR) c7, .slice b7 (len dR) d7], .bool true]) (by simp [results, Tryz.results158, go_sem, k2_0, k2_1, k2_2]) rfl (RatOf.ok ((hfin.base (((((x1.trans x2).trans x3).trans x4).trans x5).trans x6)).touch' x0 y1.drew (Touch.three _ (by omega) (by rw [Z0.out]; omega) _ _ _)))

end Go.Proofs.YtgihpfkjpfanmaaGreat

/- Contracts of the reference's package 03: Add. -/
namespace Go.Proofs.YtgihpfkjpfanmaaGreat
open Go.RowKit

theorem cell_set3 {w : World} {b : Nat} {p : Addr} {x v0 v1 v2 : Value} (h : w.cell? p = some x) (hb : p.block ≠ b) : (((w.setCell ⟨b, 0, none⟩ v0).setCell ⟨b, 1, none⟩ v1).setCell ⟨b, 2, none⟩ v2).cell? p = some x := by
  rw [World.cell?_setCell_other _ _ _ _ (by intro e; exact hb (by rw [← e])), World.cell?_setCell_other _ _ _ _ (by intro e; exact hb (by rw [← e])), World.cell?_setCell_other _ _ _ _ (by intro e; exact hb (by rw [← e])), h]
theorem cell_alloc' {w : World} {o : Obj} {p : Addr} {x : Value} (h : w.cell? p = some x) : (w.alloc o).cell? p = some x := cell_ext ((Ext.refl _).alloc _) h
theorem cell_drew' {w : World} {p : Addr} {x : Value} (h : w.cell? p = some x) : w.drew.cell? p = some x := h
theorem Raw.alloc' {w : World} {a : Option Addr} {k c n : Nat} (h : Raw w a k c n) (o : Obj) : Raw (w.alloc o) a k c n := h.ext ((Ext.refl _).alloc _)
theorem Arr.alloc' {w : World} {b : Nat} {T : TypeId} {vs : List Value} (h : Arr w b T vs) (o : Obj) : Arr (w.alloc o) b T vs := h.ext ((Ext.refl _).alloc _)
theorem Arr.alloc2 (w : World) (o : Obj) (T : TypeId) (vs : List Value) : Arr ((w.alloc o).alloc (.cells vs.toArray T)) (w.heap.size + 1) T vs := by
  have h := Arr.alloc (w.alloc o) T vs
  rw [show (w.alloc o).heap.size = w.heap.size + 1 from by simp] at h
  exact h
theorem Arr.alloc_at {w : World} {b : Nat} (T : TypeId) (vs : List Value) (_ : Unit) (h : w.heap.size = b) : Arr (w.alloc (.cells vs.toArray T)) b T vs := h ▸ Arr.alloc w T vs
theorem Arr.set3 {w : World} {b : Nat} {T : TypeId} {x y z : Value} (h : Arr w b T [x, y, z]) (u v t : Value) : Arr (((w.setCell ⟨b, 0, none⟩ u).setCell ⟨b, 1, none⟩ v).setCell ⟨b, 2, none⟩ t) b T [u, v, t] := ((h.set 0 u).set 1 v).set 2 t
theorem Arr.other3 {w : World} {b b' : Nat} {T : TypeId} {vs : List Value} (h : Arr w b T vs) (u v t : Value) (hb : b' ≠ b) : Arr (((w.setCell ⟨b', 0, none⟩ u).setCell ⟨b', 1, none⟩ v).setCell ⟨b', 2, none⟩ t) b T vs := ((h.other _ _ hb).other _ _ hb).other _ _ hb

set_option maxHeartbeats 20000000 in
set_option maxRecDepth 100000 in
/-- ref03.Add, over its callees. -/
theorem r3_Add_walk (w : World) (s : Bool) (a b : Option Addr) (k c j d : Nat) (s' : Bool) (a' b' : Option Addr) (k' c' j' d' : Nat) (sP sQ s1 s2 s3 s4 sR : Bool) (nP dP nQ dQ n1 n2 n3 n4 nR dR : Nat) (hN : ∀ V, Ext w V → Calls Tryz.prog 74 #[.agg #[.bool s, .slice a k c, .slice b j d]] V (RatOf sP nP dP V)) (hN' : ∀ V, Ext w V → Calls Tryz.prog 74 #[.agg #[.bool s', .slice a' k' c', .slice b' j' d']] V (RatOf sQ nQ dQ V)) (hD : ∀ V, Ext w V → Calls Tryz.prog 78 #[.agg #[.bool s, .slice a k c, .slice b j d]] V (IntOf false dP V)) (hD' : ∀ V, Ext w V → Calls Tryz.prog 78 #[.agg #[.bool s', .slice a' k' c', .slice b' j' d']] V (IntOf false dQ V)) (hX : ∀ V a c b d, Raw V a (len nP) c nP → Raw V b (len dQ) d dQ → Calls Tryz.prog 77 #[.agg #[.bool sP, .slice a (len nP) c], .agg #[.bool false, .slice b (len dQ) d]] V (IntOf s1 n1 V)) (hY : ∀ V a c b d, Raw V a (len nQ) c nQ → Raw V b (len dP) d dP → Calls Tryz.prog 77 #[.agg #[.bool sQ, .slice a (len nQ) c], .agg #[.bool false, .slice b (len dP) d]] V (IntOf s2 n2 V)) (hA : ∀ V a c b d, Raw V a (len n1) c n1 → Raw V b (len n2) d n2 → Calls Tryz.prog 76 #[.agg #[.bool s1, .slice a (len n1) c], .agg #[.bool s2, .slice b (len n2) d]] V (IntOf s3 n3 V)) (hZ : ∀ V a c b d, Raw V a (len dP) c dP → Raw V b (len dQ) d dQ → Calls Tryz.prog 77 #[.agg #[.bool false, .slice a (len dP) c], .agg #[.bool false, .slice b (len dQ) d]] V (IntOf s4 n4 V)) (hM : ∀ V a c b d, Raw V a (len n3) c n3 → Raw V b (len n4) d n4 → Calls Tryz.prog 75 #[.agg #[.bool s3, .slice a (len n3) c], .agg #[.bool s4, .slice b (len n4) d]] V (RatOf sR nR dR V)) :
    Calls Tryz.prog 30 #[.agg #[.bool s, .slice a k c, .slice b j d], .agg #[.bool s', .slice a' k' c', .slice b' j' d']] w (RatOf sR nR dR w) := by
  have HN := Lib.hid hN; have HN' := Lib.hid hN'; have HD := Lib.hid hD; have HD' := Lib.hid hD'; have HX := Lib.hid hX; have HY := Lib.hid hY; have HA := Lib.hid hA; have HZ := Lib.hid hZ; have HM := Lib.hid hM; clear hN hN' hD hD' hX hY hA hZ hM
  have fd0 := Tryz.rat_num
  have fd1 := Tryz.rat_den
  go_enter Tryz.func30, Tryz.ntmps30
  go_wp2_with fail
  obtain ⟨W, hW, x0, Z0, A0, A1, A2⟩ := boxes3 w 55 [.bool s, .slice a k c, .slice b j d] 55 [.bool s', .slice a' k' c', .slice b' j' d'] 55 [.bool false, .slice none 0 0, .slice none 0 0]
  rw [← hW]
  clear hW
  obtain ⟨k0_0, k0_1, k0_2, f0_0, f0_1, f0_2⟩ := box3 A0 (Ext.refl _)
  have z0 := (A0.ext (Ext.refl _)).lt
  obtain ⟨k1_0, k1_1, k1_2, f1_0, f1_1, f1_2⟩ := box3 A1 (Ext.refl _)
  have z1 := (A1.ext (Ext.refl _)).lt
  obtain ⟨k2_0, k2_1, k2_2, f2_0, f2_1, f2_2⟩ := box3 A2 (Ext.refl _)
  have z2 := (A2.ext (Ext.refl _)).lt
  have sW0 : w.heap.size < W.heap.size := by rw [Z0.out]; omega
  have sW1 : w.heap.size + 1 < W.heap.size := by rw [Z0.out]; omega
  clear f0_0 f0_1 f0_2 f1_0 f1_1 f1_2 f2_0 f2_1 f2_2 k2_0 k2_1 k2_2 z2
  have tk1 : True := trivial
  go_cut [5, 6] (fun s5 s6 wx => ∃ (g5 g6 : Nat) (a1 b1 a2 b2 : Option Addr) (c1 d1 c2 d2 : Nat), s5 = .pointer (some ⟨g5, 0, none⟩) ∧ s6 = .pointer (some ⟨g6, 0, none⟩) ∧ W.heap.size ≤ g5 ∧ W.heap.size ≤ g6 ∧ Hid (Arr wx g5 55 [.bool sP, .slice a1 (len nP) c1, .slice b1 (len dP) d1]) ∧ Hid (Arr wx g6 55 [.bool sQ, .slice a2 (len nQ) c2, .slice b2 (len dQ) d2]) ∧ Raw wx a1 (len nP) c1 nP ∧ Raw wx a2 (len nQ) c2 nQ ∧ Ext W wx)
  case first =>
    go_region_held3 (fun w' => w'.cell? ⟨w.heap.size, 0, none⟩ = some (.bool s) ∧ w'.cell? ⟨w.heap.size, 1, none⟩ = some (.slice a k c) ∧ w'.cell? ⟨w.heap.size, 2, none⟩ = some (.slice b j d) ∧ w'.cell? ⟨w.heap.size + 1, 0, none⟩ = some (.bool s') ∧ w'.cell? ⟨w.heap.size + 1, 1, none⟩ = some (.slice a' k' c') ∧ w'.cell? ⟨w.heap.size + 1, 2, none⟩ = some (.slice b' j' d')) (first | with_reducible exact ⟨k0_0, k0_1, k0_2, k1_0, k1_1, k1_2⟩ | (refine ⟨?_, ?_, ?_, ?_, ?_, ?_⟩ <;> (repeat (with_reducible first | exact k0_0 | exact k0_1 | exact k0_2 | exact k1_0 | exact k1_1 | exact k1_2 | refine cell_set3 ?_ (by simp only; omega) | refine cell_alloc' ?_ | refine cell_drew' ?_)))) (first
      | (go_at_call 74; have _t := tk1; (with_reducible refine (HN.out _ (by repeat (first | exact x0 | exact Ext.refl _ | refine Ext.drew ?_ | refine Ext.alloc ?_ _))).mono ?_); rintro e w1 ⟨a1, c1, b1, d1, rfl, r1, f1, q1, g1, x1⟩; clear tk1 _t; have v1 : Ext W w1 := (by refine Ext.trans ?_ x1; repeat (with_reducible first | exact Ext.refl _ | refine Ext.drew ?_ | refine Ext.alloc ?_ _)); clear k0_0 k0_1 k0_2 k1_0 k1_1 k1_2; obtain ⟨k0_0, k0_1, k0_2, -, -, -⟩ := box3 A0 v1; obtain ⟨k1_0, k1_1, k1_2, -, -, -⟩ := box3 A1 v1; have z0 := (A0.ext v1).lt; have z1 := (A1.ext v1).lt; (first | (have y1 : Ext ((W.alloc (.cells #[.bool false, .slice none 0 0, .slice none 0 0] 55)).alloc (.cells #[.bool false, .slice none 0 0, .slice none 0 0] 55)) w1 := (by with_reducible exact Ext.trans (Ext.drew (Ext.refl _)) x1); have RC : Arr w1 (W.heap.size + 1) 55 [.bool false, .slice none 0 0, .slice none 0 0] := (Arr.alloc2 W (.cells #[.bool false, .slice none 0 0, .slice none 0 0] 55) 55 [.bool false, .slice none 0 0, .slice none 0 0]).ext y1; have RB : Arr w1 W.heap.size 55 [.bool false, .slice none 0 0, .slice none 0 0] := ((Arr.alloc W 55 [.bool false, .slice none 0 0, .slice none 0 0]).ext ((Ext.refl _).alloc (.cells #[.bool false, .slice none 0 0, .slice none 0 0] 55))).ext y1; obtain ⟨m0, m1, m2, m3, m4, m5⟩ := box3 RB (Ext.refl _); have mz := RB.lt; obtain ⟨l0, l1, l2, l3, l4, l5⟩ := box3 RC (Ext.refl _); have lz := RC.lt) | (have y1 : Ext (W.alloc (.cells #[.bool false, .slice none 0 0, .slice none 0 0] 55)) w1 := (by with_reducible exact Ext.trans (Ext.drew (Ext.refl _)) x1); have RB : Arr w1 W.heap.size 55 [.bool false, .slice none 0 0, .slice none 0 0] := (Arr.alloc W 55 [.bool false, .slice none 0 0, .slice none 0 0]).ext y1; obtain ⟨m0, m1, m2, m3, m4, m5⟩ := box3 RB (Ext.refl _); have mz := RB.lt) | skip))
      | (go_at_call 74; (with_reducible refine (HN'.out _ (by refine x0.trans ?_; repeat (first | exact v1 | refine Ext.drew ?_ | refine Ext.alloc ?_ _))).mono ?_); rintro e w2 ⟨a2, c2, b2, d2, rfl, r2, f2, q2, g2, x2⟩; have v2 : Ext W w2 := (by refine Ext.trans ?_ x2; repeat (with_reducible first | exact v1 | refine Ext.drew ?_ | refine Ext.alloc ?_ _)); clear k0_0 k0_1 k0_2 k1_0 k1_1 k1_2; obtain ⟨k0_0, k0_1, k0_2, -, -, -⟩ := box3 A0 v2; obtain ⟨k1_0, k1_1, k1_2, -, -, -⟩ := box3 A1 v2; have z0 := (A0.ext v2).lt; have z1 := (A1.ext v2).lt; (first | (have RB := RB.ext (by with_reducible exact x2); have RC := RC.ext x2; obtain ⟨m0, m1, m2, m3, m4, m5⟩ := box3 RB (Ext.refl _); have mz := RB.lt; obtain ⟨l0, l1, l2, l3, l4, l5⟩ := box3 RC (Ext.refl _); have lz := RC.lt) | (have y1 : Ext (w1.alloc (.cells #[.bool false, .slice none 0 0, .slice none 0 0] 55)) w2 := (by with_reducible exact x2); have nn1 := RB.lt; have RC : Arr w2 w1.heap.size 55 [.bool false, .slice none 0 0, .slice none 0 0] := (Arr.alloc w1 55 [.bool false, .slice none 0 0, .slice none 0 0]).ext y1; have RB := RB.ext (Ext.trans ((Ext.refl _).alloc (.cells #[.bool false, .slice none 0 0, .slice none 0 0] 55)) y1); obtain ⟨m0, m1, m2, m3, m4, m5⟩ := box3 RB (Ext.refl _); have mz := RB.lt; obtain ⟨l0, l1, l2, l3, l4, l5⟩ := box3 RC (Ext.refl _); have lz := RC.lt) | (have RB := RB.ext (by with_reducible exact x2); obtain ⟨m0, m1, m2, m3, m4, m5⟩ := box3 RB (Ext.refl _); have mz := RB.lt) | (have y1 : Ext ((w1.alloc (.cells #[.bool false, .slice none 0 0, .slice none 0 0] 55)).alloc (.cells #[.bool false, .slice none 0 0, .slice none 0 0] 55)) w2 := (by with_reducible exact x2); have RC : Arr w2 (w1.heap.size + 1) 55 [.bool false, .slice none 0 0, .slice none 0 0] := (Arr.alloc2 w1 (.cells #[.bool false, .slice none 0 0, .slice none 0 0] 55) 55 [.bool false, .slice none 0 0, .slice none 0 0]).ext y1; have RB : Arr w2 w1.heap.size 55 [.bool false, .slice none 0 0, .slice none 0 0] := ((Arr.alloc w1 55 [.bool false, .slice none 0 0, .slice none 0 0]).ext ((Ext.refl _).alloc (.cells #[.bool false, .slice none 0 0, .slice none 0 0] 55))).ext y1; obtain ⟨m0, m1, m2, m3, m4, m5⟩ := box3 RB (Ext.refl _); have mz := RB.lt; obtain ⟨l0, l1, l2, l3, l4, l5⟩ := box3 RC (Ext.refl _); have lz := RC.lt) | (have y1 : Ext (w1.alloc (.cells #[.bool false, .slice none 0 0, .slice none 0 0] 55)) w2 := (by with_reducible exact x2); have RB : Arr w2 w1.heap.size 55 [.bool false, .slice none 0 0, .slice none 0 0] := (Arr.alloc w1 55 [.bool false, .slice none 0 0, .slice none 0 0]).ext y1; obtain ⟨m0, m1, m2, m3, m4, m5⟩ := box3 RB (Ext.refl _); have mz := RB.lt) | skip)))
    all_goals go_wp2_with fail
    all_goals go_meet
    all_goals have sz1 := x1.size
    all_goals have sz2 := x2.size
    all_goals simp at sz1 sz2
    all_goals refine ⟨_, _, a1, b1, a2, b2, c1, d1, c2, d2, rfl, rfl, ?_, ?_, ?_, ?_, ?_, ?_, ?_⟩
    all_goals have y2 : Ext w1 w2 := (by refine Ext.trans ?_ x2; repeat (with_reducible first | exact Ext.refl _ | refine Ext.drew ?_ | refine Ext.alloc ?_ _))
    all_goals have p1 := r1.ext y2
    all_goals have o1 := v1.size
    all_goals have o2 := y2.size
    all_goals first
      | (with_reducible refine Lib.hid ?_; (repeat (with_reducible first | exact Arr.alloc _ _ _ | exact Arr.alloc2 _ _ _ _ | (refine Arr.alloc_at _ _ () ?_; simp; done) | exact RB | exact RC | exact RB.set3 _ _ _ | exact RC.set3 _ _ _ | (refine (RB.other3 _ _ _ ?_).set3 _ _ _; omega) | (refine (RC.other3 _ _ _ ?_).set3 _ _ _; omega) | (refine Arr.other3 ?_ _ _ _ ?_; rotate_left; (· omega)) | refine Arr.alloc' ?_ _)); done)
      | ((repeat (with_reducible first | exact p1 | refine Raw.alloc' ?_ _ | (refine Raw.setCell ?_ _ _ (f1.ne ?_); rotate_left; (· first | (simp; done) | (simp only; omega) | (simp; omega))) | (refine Raw.setNew r1 ?_ _ _ ?_; rotate_left; (· first | (simp; done) | (simp only; omega) | (simp; omega))))); done)
      | ((repeat (with_reducible first | exact r2 | refine Raw.alloc' ?_ _ | (refine Raw.setCell ?_ _ _ (f2.ne ?_); rotate_left; (· first | (simp; done) | (simp only; omega) | (simp; omega))))); done)
      | ((repeat (with_reducible first | exact v2 | refine Ext.alloc ?_ _ | (refine Ext.setCell ?_ ?_ _; rotate_left; (· first | (simp; done) | (simp only; omega) | (simp; omega))))); done)
      | omega
  case rest =>
    obtain ⟨g5, g6, a1, b1, a2, b2, c1, d1, c2, d2, rfl, rfl, s5, s6, G5, G6, r1, r2, hx⟩ := hcut
    have n5 : w.heap.size + 3 ≤ g5 := by have := Z0.out; omega
    have n6 : w.heap.size + 3 ≤ g6 := by have := Z0.out; omega
    clear k0_0 k0_1 k0_2 k1_0 k1_1 k1_2 z0 z1
    obtain ⟨k0_0, k0_1, k0_2, f0_0, f0_1, f0_2⟩ := box3 A0 hx
    have z0 := (A0.ext hx).lt
    obtain ⟨k1_0, k1_1, k1_2, f1_0, f1_1, f1_2⟩ := box3 A1 hx
    have z1 := (A1.ext hx).lt
    obtain ⟨k2_0, k2_1, k2_2, f2_0, f2_1, f2_2⟩ := box3 A2 hx
    have z2 := (A2.ext hx).lt
    obtain ⟨m0, m1, m2, -, -, -⟩ := box3 G5.out (Ext.refl _)
    obtain ⟨l0, l1, l2, -, -, -⟩ := box3 G6.out (Ext.refl _)
    have tk3 : True := trivial
    have tk4 : True := trivial
    have tk5 : True := trivial
    have tk6 : True := trivial
    have tk8 : True := trivial
    go_wp2_with fail
    go_region_held3 (fun w' => w'.cell? ⟨w.heap.size, 0, none⟩ = some (.bool s) ∧ w'.cell? ⟨w.heap.size, 1, none⟩ = some (.slice a k c) ∧ w'.cell? ⟨w.heap.size, 2, none⟩ = some (.slice b j d) ∧ w'.cell? ⟨w.heap.size + 1, 0, none⟩ = some (.bool s') ∧ w'.cell? ⟨w.heap.size + 1, 1, none⟩ = some (.slice a' k' c') ∧ w'.cell? ⟨w.heap.size + 1, 2, none⟩ = some (.slice b' j' d') ∧ w'.cell? ⟨g5, 0, none⟩ = some (.bool sP) ∧ w'.cell? ⟨g5, 1, none⟩ = some (.slice a1 (len nP) c1) ∧ w'.cell? ⟨g6, 0, none⟩ = some (.bool sQ) ∧ w'.cell? ⟨g6, 1, none⟩ = some (.slice a2 (len nQ) c2)) (first | with_reducible exact ⟨k0_0, k0_1, k0_2, k1_0, k1_1, k1_2, m0, m1, l0, l1⟩ | (refine ⟨?_, ?_, ?_, ?_, ?_, ?_, ?_, ?_, ?_, ?_⟩ <;> (repeat (with_reducible first | exact k0_0 | exact k0_1 | exact k0_2 | exact k1_0 | exact k1_1 | exact k1_2 | exact m0 | exact m1 | exact l0 | exact l1 | refine cell_drew' ?_ | (refine cell_set3 ?_ ?_; rotate_left; (· simp only; omega)))))) (first
      | (go_at_call 78; have _t := tk3; refine (HD'.out _ (x0.trans hx.drew)).mono ?_; rintro e w3 ⟨a3, c3, rfl, r3, f3, x3⟩; clear tk3 _t; obtain ⟨k0_0, k0_1, k0_2, f0_0, f0_1, f0_2⟩ := box3 A0 (hx.drew.trans x3); have z0 := (A0.ext (hx.drew.trans x3)).lt; obtain ⟨k1_0, k1_1, k1_2, f1_0, f1_1, f1_2⟩ := box3 A1 (hx.drew.trans x3); have z1 := (A1.ext (hx.drew.trans x3)).lt; obtain ⟨k2_0, k2_1, k2_2, f2_0, f2_1, f2_2⟩ := box3 A2 (hx.drew.trans x3); have z2 := (A2.ext (hx.drew.trans x3)).lt; obtain ⟨m0, m1, m2, -, -, -⟩ := box3 G5.out (((Ext.refl _).drew).trans x3); obtain ⟨l0, l1, l2, -, -, -⟩ := box3 G6.out (((Ext.refl _).drew).trans x3))
      | (go_at_call 77; have _t := tk4; refine (HX.out _ _ _ _ _ (r1.ext (((Ext.refl _).drew).trans x3)) r3).mono ?_; rintro e w4 ⟨a4, c4, rfl, r4, f4, x4⟩; clear tk4 _t; obtain ⟨k0_0, k0_1, k0_2, f0_0, f0_1, f0_2⟩ := box3 A0 ((hx.drew.trans x3).trans x4); have z0 := (A0.ext ((hx.drew.trans x3).trans x4)).lt; obtain ⟨k1_0, k1_1, k1_2, f1_0, f1_1, f1_2⟩ := box3 A1 ((hx.drew.trans x3).trans x4); have z1 := (A1.ext ((hx.drew.trans x3).trans x4)).lt; obtain ⟨k2_0, k2_1, k2_2, f2_0, f2_1, f2_2⟩ := box3 A2 ((hx.drew.trans x3).trans x4); have z2 := (A2.ext ((hx.drew.trans x3).trans x4)).lt; obtain ⟨m0, m1, m2, -, -, -⟩ := box3 G5.out ((((Ext.refl _).drew).trans x3).trans x4); obtain ⟨l0, l1, l2, -, -, -⟩ := box3 G6.out ((((Ext.refl _).drew).trans x3).trans x4))
      | (go_at_call 78; have _t := tk5; refine (HD.out _ (x0.trans ((hx.drew.trans x3).trans x4))).mono ?_; rintro e w5 ⟨a5, c5, rfl, r5, f5, x5⟩; clear tk5 _t; obtain ⟨k0_0, k0_1, k0_2, f0_0, f0_1, f0_2⟩ := box3 A0 (((hx.drew.trans x3).trans x4).trans x5); have z0 := (A0.ext (((hx.drew.trans x3).trans x4).trans x5)).lt; obtain ⟨k1_0, k1_1, k1_2, f1_0, f1_1, f1_2⟩ := box3 A1 (((hx.drew.trans x3).trans x4).trans x5); have z1 := (A1.ext (((hx.drew.trans x3).trans x4).trans x5)).lt; obtain ⟨k2_0, k2_1, k2_2, f2_0, f2_1, f2_2⟩ := box3 A2 (((hx.drew.trans x3).trans x4).trans x5); have z2 := (A2.ext (((hx.drew.trans x3).trans x4).trans x5)).lt; obtain ⟨m0, m1, m2, -, -, -⟩ := box3 G5.out (((((Ext.refl _).drew).trans x3).trans x4).trans x5); obtain ⟨l0, l1, l2, -, -, -⟩ := box3 G6.out (((((Ext.refl _).drew).trans x3).trans x4).trans x5))
      | (go_at_call 77; have _t := tk6; refine (HY.out _ _ _ _ _ (r2.ext (((((Ext.refl _).drew).trans x3).trans x4).trans x5)) r5).mono ?_; rintro e w6 ⟨a6, c6, rfl, r6, f6, x6⟩; clear tk6 _t; obtain ⟨k0_0, k0_1, k0_2, f0_0, f0_1, f0_2⟩ := box3 A0 ((((hx.drew.trans x3).trans x4).trans x5).trans x6); have z0 := (A0.ext ((((hx.drew.trans x3).trans x4).trans x5).trans x6)).lt; obtain ⟨k1_0, k1_1, k1_2, f1_0, f1_1, f1_2⟩ := box3 A1 ((((hx.drew.trans x3).trans x4).trans x5).trans x6); have z1 := (A1.ext ((((hx.drew.trans x3).trans x4).trans x5).trans x6)).lt; obtain ⟨k2_0, k2_1, k2_2, f2_0, f2_1, f2_2⟩ := box3 A2 ((((hx.drew.trans x3).trans x4).trans x5).trans x6); have z2 := (A2.ext ((((hx.drew.trans x3).trans x4).trans x5).trans x6)).lt; obtain ⟨m0, m1, m2, -, -, -⟩ := box3 G5.out ((((((Ext.refl _).drew).trans x3).trans x4).trans x5).trans x6); obtain ⟨l0, l1, l2, -, -, -⟩ := box3 G6.out ((((((Ext.refl _).drew).trans x3).trans x4).trans x5).trans x6))
      | (go_at_call 76; refine (HA.out _ _ _ _ _ ((r4.ext x5).ext x6) r6).mono ?_; rintro e w7 ⟨a7, c7, rfl, r7, f7, x7⟩; obtain ⟨k0_0, k0_1, k0_2, f0_0, f0_1, f0_2⟩ := box3 A0 (((((hx.drew.trans x3).trans x4).trans x5).trans x6).trans x7); have z0 := (A0.ext (((((hx.drew.trans x3).trans x4).trans x5).trans x6).trans x7)).lt; obtain ⟨k1_0, k1_1, k1_2, f1_0, f1_1, f1_2⟩ := box3 A1 (((((hx.drew.trans x3).trans x4).trans x5).trans x6).trans x7); have z1 := (A1.ext (((((hx.drew.trans x3).trans x4).trans x5).trans x6).trans x7)).lt; obtain ⟨k2_0, k2_1, k2_2, f2_0, f2_1, f2_2⟩ := box3 A2 (((((hx.drew.trans x3).trans x4).trans x5).trans x6).trans x7); have z2 := (A2.ext (((((hx.drew.trans x3).trans x4).trans x5).trans x6).trans x7)).lt; obtain ⟨m0, m1, m2, -, -, -⟩ := box3 G5.out (((((((Ext.refl _).drew).trans x3).trans x4).trans x5).trans x6).trans x7); obtain ⟨l0, l1, l2, -, -, -⟩ := box3 G6.out (((((((Ext.refl _).drew).trans x3).trans x4).trans x5).trans x6).trans x7))
      | (go_at_call 78; have _t := tk8; refine (HD.out _ (x0.trans (((((hx.drew.trans x3).trans x4).trans x5).trans x6).trans x7))).mono ?_; rintro e w8 ⟨a8, c8, rfl, r8, f8, x8⟩; clear tk8 _t; obtain ⟨k0_0, k0_1, k0_2, f0_0, f0_1, f0_2⟩ := box3 A0 ((((((hx.drew.trans x3).trans x4).trans x5).trans x6).trans x7).trans x8); have z0 := (A0.ext ((((((hx.drew.trans x3).trans x4).trans x5).trans x6).trans x7).trans x8)).lt; obtain ⟨k1_0, k1_1, k1_2, f1_0, f1_1, f1_2⟩ := box3 A1 ((((((hx.drew.trans x3).trans x4).trans x5).trans x6).trans x7).trans x8); have z1 := (A1.ext ((((((hx.drew.trans x3).trans x4).trans x5).trans x6).trans x7).trans x8)).lt; obtain ⟨k2_0, k2_1, k2_2, f2_0, f2_1, f2_2⟩ := box3 A2 ((((((hx.drew.trans x3).trans x4).trans x5).trans x6).trans x7).trans x8); have z2 := (A2.ext ((((((hx.drew.trans x3).trans x4).trans x5).trans x6).trans x7).trans x8)).lt; obtain ⟨m0, m1, m2, -, -, -⟩ := box3 G5.out ((((((((Ext.refl _).drew).trans x3).trans x4).trans x5).trans x6).trans x7).trans x8); obtain ⟨l0, l1, l2, -, -, -⟩ := box3 G6.out ((((((((Ext.refl _).drew).trans x3).trans x4).trans x5).trans x6).trans x7).trans x8))
      | (go_at_call 78; refine (HD'.out _ (x0.trans ((((((hx.drew.trans x3).trans x4).trans x5).trans x6).trans x7).trans x8))).mono ?_; rintro e w9 ⟨a9, c9, rfl, r9, f9, x9⟩; obtain ⟨k0_0, k0_1, k0_2, f0_0, f0_1, f0_2⟩ := box3 A0 (((((((hx.drew.trans x3).trans x4).trans x5).trans x6).trans x7).trans x8).trans x9); have z0 := (A0.ext (((((((hx.drew.trans x3).trans x4).trans x5).trans x6).trans x7).trans x8).trans x9)).lt; obtain ⟨k1_0, k1_1, k1_2, f1_0, f1_1, f1_2⟩ := box3 A1 (((((((hx.drew.trans x3).trans x4).trans x5).trans x6).trans x7).trans x8).trans x9); have z1 := (A1.ext (((((((hx.drew.trans x3).trans x4).trans x5).trans x6).trans x7).trans x8).trans x9)).lt; obtain ⟨k2_0, k2_1, k2_2, f2_0, f2_1, f2_2⟩ := box3 A2 (((((((hx.drew.trans x3).trans x4).trans x5).trans x6).trans x7).trans x8).trans x9); have z2 := (A2.ext (((((((hx.drew.trans x3).trans x4).trans x5).trans x6).trans x7).trans x8).trans x9)).lt; obtain ⟨m0, m1, m2, -, -, -⟩ := box3 G5.out (((((((((Ext.refl _).drew).trans x3).trans x4).trans x5).trans x6).trans x7).trans x8).trans x9); obtain ⟨l0, l1, l2, -, -, -⟩ := box3 G6.out (((((((((Ext.refl _).drew).trans x3).trans x4).trans x5).trans x6).trans x7).trans x8).trans x9))
      | (go_at_call 77; refine (HZ.out _ _ _ _ _ (r8.ext x9) r9).mono ?_; rintro e w10 ⟨a10, c10, rfl, r10, f10, x10⟩; obtain ⟨k0_0, k0_1, k0_2, f0_0, f0_1, f0_2⟩ := box3 A0 ((((((((hx.drew.trans x3).trans x4).trans x5).trans x6).trans x7).trans x8).trans x9).trans x10); have z0 := (A0.ext ((((((((hx.drew.trans x3).trans x4).trans x5).trans x6).trans x7).trans x8).trans x9).trans x10)).lt; obtain ⟨k1_0, k1_1, k1_2, f1_0, f1_1, f1_2⟩ := box3 A1 ((((((((hx.drew.trans x3).trans x4).trans x5).trans x6).trans x7).trans x8).trans x9).trans x10); have z1 := (A1.ext ((((((((hx.drew.trans x3).trans x4).trans x5).trans x6).trans x7).trans x8).trans x9).trans x10)).lt; obtain ⟨k2_0, k2_1, k2_2, f2_0, f2_1, f2_2⟩ := box3 A2 ((((((((hx.drew.trans x3).trans x4).trans x5).trans x6).trans x7).trans x8).trans x9).trans x10); have z2 := (A2.ext ((((((((hx.drew.trans x3).trans x4).trans x5).trans x6).trans x7).trans x8).trans x9).trans x10)).lt; obtain ⟨m0, m1, m2, -, -, -⟩ := box3 G5.out ((((((((((Ext.refl _).drew).trans x3).trans x4).trans x5).trans x6).trans x7).trans x8).trans x9).trans x10); obtain ⟨l0, l1, l2, -, -, -⟩ := box3 G6.out ((((((((((Ext.refl _).drew).trans x3).trans x4).trans x5).trans x6).trans x7).trans x8).trans x9).trans x10))
      | (go_at_call 75; refine (HM.out _ _ _ _ _ (((r7.ext x8).ext x9).ext x10) r10).mono ?_; intro e w11 hfin; obtain ⟨a11, c11, b11, d11, rfl, r11, f11, q11, g11, x11⟩ := id hfin; obtain ⟨k0_0, k0_1, k0_2, f0_0, f0_1, f0_2⟩ := box3 A0 (((((((((hx.drew.trans x3).trans x4).trans x5).trans x6).trans x7).trans x8).trans x9).trans x10).trans x11); have z0 := (A0.ext (((((((((hx.drew.trans x3).trans x4).trans x5).trans x6).trans x7).trans x8).trans x9).trans x10).trans x11)).lt; obtain ⟨k1_0, k1_1, k1_2, f1_0, f1_1, f1_2⟩ := box3 A1 (((((((((hx.drew.trans x3).trans x4).trans x5).trans x6).trans x7).trans x8).trans x9).trans x10).trans x11); have z1 := (A1.ext (((((((((hx.drew.trans x3).trans x4).trans x5).trans x6).trans x7).trans x8).trans x9).trans x10).trans x11)).lt; obtain ⟨k2_0, k2_1, k2_2, f2_0, f2_1, f2_2⟩ := box3 A2 (((((((((hx.drew.trans x3).trans x4).trans x5).trans x6).trans x7).trans x8).trans x9).trans x10).trans x11); have z2 := (A2.ext (((((((((hx.drew.trans x3).trans x4).trans x5).trans x6).trans x7).trans x8).trans x9).trans x10).trans x11)).lt; obtain ⟨m0, m1, m2, -, -, -⟩ := box3 G5.out (((((((((((Ext.refl _).drew).trans x3).trans x4).trans x5).trans x6).trans x7).trans x8).trans x9).trans x10).trans x11); obtain ⟨l0, l1, l2, -, -, -⟩ := box3 G6.out (((((((((((Ext.refl _).drew).trans x3).trans x4).trans x5).trans x6).trans x7).trans x8).trans x9).trans x10).trans x11)))
    go_wp2_with fail
    exact bodyPost_ret (by simp [results, Tryz.results30, go_sem, k2_0, k2_1, k2_2]) rfl (RatOf.touch' (hfin.base (((((((x3.trans x4).trans x5).trans x6).trans x7).trans x8).trans x9).trans x10)) x0 hx.drew (Touch.three _ (by omega) (by rw [Z0.out]; omega) _ _ _))

end Go.Proofs.YtgihpfkjpfanmaaGreat

/- Contracts of the reference's package 03: what Neg, Mul, Div, Add return. -/
namespace Go.Proofs.YtgihpfkjpfanmaaGreat
open Go.RowKit

theorem mk_ratOf (V : World) (s1 t : Bool) (n1 n2 : Nat) (R : Rat) (hR : mkRat (sgn (s1 != t) n1) n2 = R) (b1 : len n1 < 900000000) (b2 : len n2 < 900000000) (a : Option Addr) (c : Nat) (b : Option Addr) (d : Nat) (h : Raw V a (len n1) c n1) (h' : Raw V b (len n2) d n2) :
    Calls Tryz.prog 75 #[.agg #[.bool s1, .slice a (len n1) c], .agg #[.bool t, .slice b (len n2) d]] V (RatOf (decide (R.num < 0)) R.num.natAbs R.den V) := by
  have := r3_Make V s1 t a b _ c _ d n1 n2 h h' b1 b2
  rw [hR] at this
  exact this
theorem mul_intOf (V : World) (s1 t : Bool) (n1 n2 : Nat) (z : Int) (hz : sgn s1 n1 * sgn t n2 = z) (b1 : len n1 < 1000000000) (b2 : len n2 < 1000000000) (a : Option Addr) (c : Nat) (b : Option Addr) (d : Nat) (h : Raw V a (len n1) c n1) (h' : Raw V b (len n2) d n2) :
    Calls Tryz.prog 77 #[.agg #[.bool s1, .slice a (len n1) c], .agg #[.bool t, .slice b (len n2) d]] V (IntOf (decide (z < 0)) z.natAbs V) := by
  have := r2_Mul V s1 t a b _ c _ d n1 n2 h h' b1 b2
  rw [hz] at this
  exact this
theorem add_intOf (V : World) (s1 t : Bool) (n1 n2 : Nat) (z : Int) (hz : sgn s1 n1 + sgn t n2 = z) (b1 : len n1 < 1000000000) (b2 : len n2 < 1000000000) (a : Option Addr) (c : Nat) (b : Option Addr) (d : Nat) (h : Raw V a (len n1) c n1) (h' : Raw V b (len n2) d n2) :
    Calls Tryz.prog 76 #[.agg #[.bool s1, .slice a (len n1) c], .agg #[.bool t, .slice b (len n2) d]] V (IntOf (decide (z < 0)) z.natAbs V) := by
  have := r2_Add V s1 t a b _ c _ d n1 n2 h h' b1 b2
  rw [hz] at this
  exact this

theorem rat_lens (s : Bool) (n m : Nat) {k j : Nat} (h1 : len n ≤ k) (h2 : len m ≤ j) (b1 : k < 200000000) (b2 : j < 200000000) : len (mkRat (sgn s n) m).num.natAbs < 200000000 ∧ len (mkRat (sgn s n) m).den < 200000000 := by
  have h := rsz_mkRat (sgn s n) m
  rw [sgn_natAbs] at h
  have h3 := rsz_num (mkRat (sgn s n) m)
  have h4 := rsz_den (mkRat (sgn s n) m)
  omega

/-- ref03.Neg. -/
theorem r3_Neg (w : World) (s : Bool) (a b : Option Addr) (k c j d n m : Nat) (h : Raw w a k c n) (g : Raw w b j d m) (b1 : k < 200000000) (b2 : j < 200000000) : Calls Tryz.prog 37 #[.agg #[.bool s, .slice a k c, .slice b j d]] w (NewRat (-(mkRat (sgn s n) m)) w) := by
  obtain ⟨l1, l2⟩ := rat_lens s n m h.len_le g.len_le b1 b2
  have hN := fun V (hV : Ext w V) => (r3_Norm V s a b k c j d n m (h.ext hV) (g.ext hV) b1 b2).mono (fun _ _ hh => hh.ratOf)
  have hD := fun V (hV : Ext w V) => r3_den V s a b k c j d n m (h.ext hV) (g.ext hV) b1 b2
  generalize mkRat (sgn s n) m = P at *
  refine (r3_Neg_walk w s a b k c j d _ (decide (-P.num < 0)) _ _ _ (-P.num).natAbs _ _ hN hD ?_ (fun V a c b d h1 h2 => mk_ratOf V _ _ _ _ (-P) ?_ ?_ ?_ a c b d h1 h2)).mono (fun _ _ hh => hh.newRat)
  · intro V a c hR
    have := r2_Neg V (decide (P.num < 0)) a _ c _ hR
    rw [sgn_dec] at this
    exact this
  · rw [Bool.bne_false, sgn_dec, ← Rat.neg_mkRat, Rat.mkRat_self]
  · rw [Int.natAbs_neg]; omega
  · omega

theorem len_prod {x y : Nat} (h1 : len x < 200000000) (h2 : len y < 200000000) : len (x * y) < 400000000 := by
  have := len_mul x y; omega

/-- ref03.Mul. -/
theorem r3_Mul (w : World) (s : Bool) (a b : Option Addr) (k c j d n m : Nat) (h : Raw w a k c n) (g : Raw w b j d m) (s' : Bool) (a' b' : Option Addr) (k' c' j' d' n' m' : Nat) (h' : Raw w a' k' c' n') (g' : Raw w b' j' d' m') (b1 : k < 200000000) (b2 : j < 200000000) (b1' : k' < 200000000) (b2' : j' < 200000000) : Calls Tryz.prog 31 #[.agg #[.bool s, .slice a k c, .slice b j d], .agg #[.bool s', .slice a' k' c', .slice b' j' d']] w (NewRat (mkRat (sgn s n) m * mkRat (sgn s' n') m') w) := by
  obtain ⟨l1, l2⟩ := rat_lens s n m h.len_le g.len_le b1 b2
  obtain ⟨l3, l4⟩ := rat_lens s' n' m' h'.len_le g'.len_le b1' b2'
  have hN := fun V (hV : Ext w V) => (r3_Norm V s a b k c j d n m (h.ext hV) (g.ext hV) b1 b2).mono (fun _ _ hh => hh.ratOf)
  have hD := fun V (hV : Ext w V) => r3_den V s a b k c j d n m (h.ext hV) (g.ext hV) b1 b2
  have hN' := fun V (hV : Ext w V) => (r3_Norm V s' a' b' k' c' j' d' n' m' (h'.ext hV) (g'.ext hV) b1' b2').mono (fun _ _ hh => hh.ratOf)
  have hD' := fun V (hV : Ext w V) => r3_den V s' a' b' k' c' j' d' n' m' (h'.ext hV) (g'.ext hV) b1' b2'
  generalize mkRat (sgn s n) m = P at *
  generalize mkRat (sgn s' n') m' = Q at *
  have e2 : decide ((P.den : Int) * (Q.den : Int) < 0) = false := decide_eq_false (by rw [← Int.natCast_mul]; omega)
  have e3 : ((P.den : Int) * (Q.den : Int)).natAbs = P.den * Q.den := by rw [← Int.natCast_mul, Int.natAbs_natCast]
  refine (r3_Mul_walk w s a b k c j d s' a' b' k' c' j' d' _ _ _ _ _ _ _ _ _ _ _ _ _ hN hN' hD hD' (fun V a c b d h1 h2 => mul_intOf V _ _ _ _ (P.num * Q.num) ?_ ?_ ?_ a c b d h1 h2) (fun V a c b d h1 h2 => mul_intOf V _ _ _ _ ((P.den : Int) * (Q.den : Int)) ?_ ?_ ?_ a c b d h1 h2) (fun V a c b d h1 h2 => mk_ratOf V _ _ _ _ (P * Q) ?_ ?_ ?_ a c b d h1 h2)).mono (fun _ _ hh => hh.newRat)
  · rw [sgn_dec, sgn_dec]
  · omega
  · omega
  · rw [sgn_false, sgn_false]
  · omega
  · omega
  · rw [e2, Bool.bne_false, sgn_dec, e3, Rat.mul_def']
  · rw [Int.natAbs_mul]; have := len_prod l1 l3; omega
  · rw [e3]; have := len_prod l2 l4; omega

theorem div_val (P Q : Rat) (_hQ : Q.num ≠ 0) : mkRat (sgn (decide (P.num * (Q.den : Int) < 0) != decide ((P.den : Int) * Q.num < 0)) (P.num * (Q.den : Int)).natAbs) ((P.den : Int) * Q.num).natAbs = P / Q := by
  have hd : 0 < Q.den := Q.den_pos
  have hd' : 0 < P.den := P.den_pos
  obtain ⟨t, ht⟩ : ∃ t, t = decide (Q.num < 0) := ⟨_, rfl⟩
  have e1 : decide (P.num * (Q.den : Int) < 0) = decide (P.num < 0) := by
    have h5 := sign_mul_pos P.num Q.den hd
    by_cases h : P.num < 0
    · rw [Int.sign_eq_neg_one_of_neg h] at h5
      rw [decide_eq_true h, decide_eq_true (Int.sign_eq_neg_one_iff_neg.1 h5)]
    · rw [decide_eq_false h, decide_eq_false (Int.not_lt.2 (Int.mul_nonneg (by omega) (by omega)))]
  have e2 : decide ((P.den : Int) * Q.num < 0) = t := by
    have h5 := sign_mul_pos Q.num P.den hd'
    rw [Int.mul_comm, ht]
    by_cases h : Q.num < 0
    · rw [Int.sign_eq_neg_one_of_neg h] at h5
      rw [decide_eq_true h, decide_eq_true (Int.sign_eq_neg_one_iff_neg.1 h5)]
    · rw [decide_eq_false h, decide_eq_false (Int.not_lt.2 (Int.mul_nonneg (by omega) (by omega)))]
  rw [e1, e2, Int.natAbs_mul, Int.natAbs_mul, Int.natAbs_natCast, Int.natAbs_natCast, sgn_mul, sgn_dec, ← Rat.mkRat_mul_mkRat, Rat.mkRat_self, mkRat_inv, Rat.div_def, ht, sgn_dec, Rat.mkRat_self]

/-- ref03.Div by a number other than 0. -/
theorem r3_Div (w : World) (s : Bool) (a b : Option Addr) (k c j d n m : Nat) (h : Raw w a k c n) (g : Raw w b j d m) (s' : Bool) (a' b' : Option Addr) (k' c' j' d' n' m' : Nat) (h' : Raw w a' k' c' n') (g' : Raw w b' j' d' m') (b1 : k < 200000000) (b2 : j < 200000000) (b1' : k' < 200000000) (b2' : j' < 200000000) (h0 : ¬ mkRat (sgn s' n') m' = 0) : Calls Tryz.prog 158 #[.agg #[.bool s, .slice a k c, .slice b j d], .agg #[.bool s', .slice a' k' c', .slice b' j' d']] w (RatOfOk (decide ((mkRat (sgn s n) m / mkRat (sgn s' n') m').num < 0)) (mkRat (sgn s n) m / mkRat (sgn s' n') m').num.natAbs (mkRat (sgn s n) m / mkRat (sgn s' n') m').den w) := by
  obtain ⟨l1, l2⟩ := rat_lens s n m h.len_le g.len_le b1 b2
  obtain ⟨l3, l4⟩ := rat_lens s' n' m' h'.len_le g'.len_le b1' b2'
  have hN := fun V (hV : Ext w V) => (r3_Norm V s a b k c j d n m (h.ext hV) (g.ext hV) b1 b2).mono (fun _ _ hh => hh.ratOf)
  have hD := fun V (hV : Ext w V) => r3_den V s a b k c j d n m (h.ext hV) (g.ext hV) b1 b2
  have hN' := fun V (hV : Ext w V) => (r3_Norm V s' a' b' k' c' j' d' n' m' (h'.ext hV) (g'.ext hV) b1' b2').mono (fun _ _ hh => hh.ratOf)
  have hD' := fun V (hV : Ext w V) => r3_den V s' a' b' k' c' j' d' n' m' (h'.ext hV) (g'.ext hV) b1' b2'
  have hS := fun V (hV : Ext w V) => r3_Sign V s' a' b' k' c' j' d' n' m' (h'.ext hV) (g'.ext hV) b1' b2'
  generalize mkRat (sgn s n) m = P at *
  generalize mkRat (sgn s' n') m' = Q at *
  have hq0 : Q.num ≠ 0 := fun e => h0 (Rat.num_eq_zero.1 e)
  have hz : (Q.num.sign == 0) = false := by rw [beq_eq_false_iff_ne]; exact fun e => h0 (sign_zero_iff.1 e)
  refine r3_Div_walk w s a b k c j d s' a' b' k' c' j' d' _ _ _ _ _ _ _ _ _ _ _ _ _ _ hz hS hN hN' hD hD' (fun V a c b d h1 h2 => mul_intOf V _ _ _ _ (P.num * (Q.den : Int)) ?_ ?_ ?_ a c b d h1 h2) (fun V a c b d h1 h2 => mul_intOf V _ _ _ _ ((P.den : Int) * Q.num) ?_ ?_ ?_ a c b d h1 h2) (fun V a c b d h1 h2 => mk_ratOf V _ _ _ _ (P / Q) ?_ ?_ ?_ a c b d h1 h2)
  · rw [sgn_dec, sgn_false]
  · omega
  · omega
  · rw [sgn_dec, sgn_false]
  · omega
  · omega
  · exact div_val P Q hq0
  · rw [Int.natAbs_mul, Int.natAbs_natCast]; have := len_prod l1 l4; omega
  · rw [Int.natAbs_mul, Int.natAbs_natCast]; have := len_prod l2 l3; omega

/-- ref03.Add. -/
theorem r3_Add (w : World) (s : Bool) (a b : Option Addr) (k c j d n m : Nat) (h : Raw w a k c n) (g : Raw w b j d m) (s' : Bool) (a' b' : Option Addr) (k' c' j' d' n' m' : Nat) (h' : Raw w a' k' c' n') (g' : Raw w b' j' d' m') (b1 : k < 200000000) (b2 : j < 200000000) (b1' : k' < 200000000) (b2' : j' < 200000000) : Calls Tryz.prog 30 #[.agg #[.bool s, .slice a k c, .slice b j d], .agg #[.bool s', .slice a' k' c', .slice b' j' d']] w (NewRat (mkRat (sgn s n) m + mkRat (sgn s' n') m') w) := by
  obtain ⟨l1, l2⟩ := rat_lens s n m h.len_le g.len_le b1 b2
  obtain ⟨l3, l4⟩ := rat_lens s' n' m' h'.len_le g'.len_le b1' b2'
  have hN := fun V (hV : Ext w V) => (r3_Norm V s a b k c j d n m (h.ext hV) (g.ext hV) b1 b2).mono (fun _ _ hh => hh.ratOf)
  have hD := fun V (hV : Ext w V) => r3_den V s a b k c j d n m (h.ext hV) (g.ext hV) b1 b2
  have hN' := fun V (hV : Ext w V) => (r3_Norm V s' a' b' k' c' j' d' n' m' (h'.ext hV) (g'.ext hV) b1' b2').mono (fun _ _ hh => hh.ratOf)
  have hD' := fun V (hV : Ext w V) => r3_den V s' a' b' k' c' j' d' n' m' (h'.ext hV) (g'.ext hV) b1' b2'
  generalize mkRat (sgn s n) m = P at *
  generalize mkRat (sgn s' n') m' = Q at *
  have e2 : decide ((P.den : Int) * (Q.den : Int) < 0) = false := decide_eq_false (by rw [← Int.natCast_mul]; omega)
  have e3 : ((P.den : Int) * (Q.den : Int)).natAbs = P.den * Q.den := by rw [← Int.natCast_mul, Int.natAbs_natCast]
  have f1 : len (P.num * (Q.den : Int)).natAbs < 400000000 := by rw [Int.natAbs_mul, Int.natAbs_natCast]; exact len_prod l1 l4
  have f2 : len (Q.num * (P.den : Int)).natAbs < 400000000 := by rw [Int.natAbs_mul, Int.natAbs_natCast]; exact len_prod l3 l2
  refine (r3_Add_walk w s a b k c j d s' a' b' k' c' j' d' _ _ _ _ _ _ _ _ _ _ _ _ _ _ _ _ _ hN hN' hD hD' (fun V a c b d h1 h2 => mul_intOf V _ _ _ _ (P.num * (Q.den : Int)) ?_ ?_ ?_ a c b d h1 h2) (fun V a c b d h1 h2 => mul_intOf V _ _ _ _ (Q.num * (P.den : Int)) ?_ ?_ ?_ a c b d h1 h2) (fun V a c b d h1 h2 => add_intOf V _ _ _ _ (P.num * (Q.den : Int) + Q.num * (P.den : Int)) ?_ ?_ ?_ a c b d h1 h2) (fun V a c b d h1 h2 => mul_intOf V _ _ _ _ ((P.den : Int) * (Q.den : Int)) ?_ ?_ ?_ a c b d h1 h2) (fun V a c b d h1 h2 => mk_ratOf V _ _ _ _ (P + Q) ?_ ?_ ?_ a c b d h1 h2)).mono (fun _ _ hh => hh.newRat)
  · rw [sgn_dec, sgn_false]
  · omega
  · omega
  · rw [sgn_dec, sgn_false]
  · omega
  · omega
  · rw [sgn_dec, sgn_dec]
  · omega
  · omega
  · rw [sgn_false, sgn_false]
  · omega
  · omega
  · rw [e2, Bool.bne_false, sgn_dec, e3, Rat.add_def']
  · have := len_intAdd (P.num * (Q.den : Int)) (Q.num * (P.den : Int)); omega
  · rw [e3]; have := len_prod l2 l4; omega

end Go.Proofs.YtgihpfkjpfanmaaGreat

/- Contracts of the reference's package 03: Sub, Compare, Over, Max. -/
namespace Go.Proofs.YtgihpfkjpfanmaaGreat
open Go.RowKit

set_option maxHeartbeats 2000000 in
set_option maxRecDepth 100000 in
/-- ref03.Sub, over its callees. -/
theorem r3_Sub_walk (w : World) (s : Bool) (a b : Option Addr) (k c j d : Nat) (s' : Bool) (a' b' : Option Addr) (k' c' j' d' : Nat) (s1 sR : Bool) (n1 m1 nR dR : Nat) (hN : ∀ V, Ext w V → Calls Tryz.prog 37 #[.agg #[.bool s', .slice a' k' c', .slice b' j' d']] V (RatOf s1 n1 m1 V)) (hA : ∀ V a1 c1 b1 d1, Ext w V → Raw V a1 (len n1) c1 n1 → Raw V b1 (len m1) d1 m1 → Calls Tryz.prog 30 #[.agg #[.bool s, .slice a k c, .slice b j d], .agg #[.bool s1, .slice a1 (len n1) c1, .slice b1 (len m1) d1]] V (RatOf sR nR dR V)) :
    Calls Tryz.prog 42 #[.agg #[.bool s, .slice a k c, .slice b j d], .agg #[.bool s', .slice a' k' c', .slice b' j' d']] w (RatOf sR nR dR w) := by
  have HN := Lib.hid hN; have HA := Lib.hid hA; clear hN hA
  have fd0 := Tryz.rat_num
  have fd1 := Tryz.rat_den
  go_enter Tryz.func42, Tryz.ntmps42
  go_wp2_with fail
  obtain ⟨W, hW, x0, Z0, A0, A1, A2⟩ := boxes3 w 55 [.bool s, .slice a k c, .slice b j d] 55 [.bool s', .slice a' k' c', .slice b' j' d'] 55 [.bool false, .slice none 0 0, .slice none 0 0]
  rw [← hW]
  clear hW
  obtain ⟨k0_0, k0_1, k0_2, f0_0, f0_1, f0_2⟩ := box3 A0 (Ext.refl _)
  have z0 := (A0.ext (Ext.refl _)).lt
  obtain ⟨k1_0, k1_1, k1_2, f1_0, f1_1, f1_2⟩ := box3 A1 (Ext.refl _)
  have z1 := (A1.ext (Ext.refl _)).lt
  obtain ⟨k2_0, k2_1, k2_2, f2_0, f2_1, f2_2⟩ := box3 A2 (Ext.refl _)
  have z2 := (A2.ext (Ext.refl _)).lt
  go_region_held3 (fun w' => w'.cell? ⟨w.heap.size, 0, none⟩ = some (.bool s) ∧ w'.cell? ⟨w.heap.size, 1, none⟩ = some (.slice a k c) ∧ w'.cell? ⟨w.heap.size, 2, none⟩ = some (.slice b j d) ∧ w'.cell? ⟨w.heap.size + 1, 0, none⟩ = some (.bool s') ∧ w'.cell? ⟨w.heap.size + 1, 1, none⟩ = some (.slice a' k' c') ∧ w'.cell? ⟨w.heap.size + 1, 2, none⟩ = some (.slice b' j' d')) (first | exact ⟨k0_0, k0_1, k0_2, k1_0, k1_1, k1_2⟩ | (simp [go_sem, k0_0, k0_1, k0_2, k1_0, k1_1, k1_2])) (first
    | (go_at_call 37; refine (HN.out _ (by exact x0.trans ((Ext.refl _).drew))).mono ?_; rintro e w1 ⟨a1, c1, b1, d1, rfl, r1, f1, q1, g1, x1⟩; obtain ⟨k0_0, k0_1, k0_2, f0_0, f0_1, f0_2⟩ := box3 A0 (((Ext.refl _).drew).trans x1); have z0 := (A0.ext (((Ext.refl _).drew).trans x1)).lt; obtain ⟨k1_0, k1_1, k1_2, f1_0, f1_1, f1_2⟩ := box3 A1 (((Ext.refl _).drew).trans x1); have z1 := (A1.ext (((Ext.refl _).drew).trans x1)).lt; obtain ⟨k2_0, k2_1, k2_2, f2_0, f2_1, f2_2⟩ := box3 A2 (((Ext.refl _).drew).trans x1); have z2 := (A2.ext (((Ext.refl _).drew).trans x1)).lt)
    | (go_at_call 30; refine (HA.out _ _ _ _ _ (by exact x0.trans (((Ext.refl _).drew).trans x1)) r1 q1).mono ?_; intro e w2 hfin; obtain ⟨a2, c2, b2, d2, rfl, r2, f2, q2, g2, x2⟩ := id hfin; obtain ⟨k0_0, k0_1, k0_2, f0_0, f0_1, f0_2⟩ := box3 A0 ((((Ext.refl _).drew).trans x1).trans x2); have z0 := (A0.ext ((((Ext.refl _).drew).trans x1).trans x2)).lt; obtain ⟨k1_0, k1_1, k1_2, f1_0, f1_1, f1_2⟩ := box3 A1 ((((Ext.refl _).drew).trans x1).trans x2); have z1 := (A1.ext ((((Ext.refl _).drew).trans x1).trans x2)).lt; obtain ⟨k2_0, k2_1, k2_2, f2_0, f2_1, f2_2⟩ := box3 A2 ((((Ext.refl _).drew).trans x1).trans x2); have z2 := (A2.ext ((((Ext.refl _).drew).trans x1).trans x2)).lt))
  go_wp2_with fail
  exact bodyPost_ret (by simp [results, Tryz.results42, go_sem, k2_0, k2_1, k2_2]) rfl (RatOf.touch (hfin.base x1) x0.drew (Touch.three _ (by omega) (by rw [World.drew, Z0.out]; omega) _ _ _))

set_option maxHeartbeats 2000000 in
set_option maxRecDepth 100000 in
/-- ref03.Compare, over its callees. -/
theorem r3_Compare_walk (w : World) (s : Bool) (a b : Option Addr) (k c j d : Nat) (s' : Bool) (a' b' : Option Addr) (k' c' j' d' : Nat) (s1 : Bool) (n1 m1 : Nat) (z : Int) (hN : ∀ V, Ext w V → Calls Tryz.prog 42 #[.agg #[.bool s, .slice a k c, .slice b j d], .agg #[.bool s', .slice a' k' c', .slice b' j' d']] V (RatOf s1 n1 m1 V)) (hA : ∀ V a1 c1 b1 d1, Ext w V → Raw V a1 (len n1) c1 n1 → Raw V b1 (len m1) d1 m1 → Calls Tryz.prog 43 #[.agg #[.bool s1, .slice a1 (len n1) c1, .slice b1 (len m1) d1]] V fun e w' => e = .returned (.int .i64 z) ∧ Ext V w') :
    Calls Tryz.prog 28 #[.agg #[.bool s, .slice a k c, .slice b j d], .agg #[.bool s', .slice a' k' c', .slice b' j' d']] w (fun e w' => e = .returned (.int .i64 z) ∧ Ext w w') := by
  have HN := Lib.hid hN; have HA := Lib.hid hA; clear hN hA
  have fd0 := Tryz.rat_num
  have fd1 := Tryz.rat_den
  go_enter Tryz.func28, Tryz.ntmps28
  go_wp2_with fail
  obtain ⟨W, hW, x0, Z0, A0, A1⟩ := boxes2 w 55 [.bool s, .slice a k c, .slice b j d] 55 [.bool s', .slice a' k' c', .slice b' j' d']
  rw [← hW]
  clear hW
  obtain ⟨k0_0, k0_1, k0_2, f0_0, f0_1, f0_2⟩ := box3 A0 (Ext.refl _)
  have z0 := (A0.ext (Ext.refl _)).lt
  obtain ⟨k1_0, k1_1, k1_2, f1_0, f1_1, f1_2⟩ := box3 A1 (Ext.refl _)
  have z1 := (A1.ext (Ext.refl _)).lt
  refine (HN.out _ x0).mono ?_
  rintro e w1 ⟨a1, c1, b1, d1, rfl, r1, f1, q1, g1, x1⟩
  go_wp2_with fail
  refine (HA.out _ _ _ _ _ (x0.trans x1) r1 q1).mono ?_
  rintro e w2 ⟨rfl, x2⟩
  go_wp2_with fail
  go_ret
  exact ⟨rfl, (x0.trans x1).trans x2⟩

set_option maxHeartbeats 2000000 in
set_option maxRecDepth 100000 in
/-- ref03.Over, over its callees. -/
theorem r3_Over_walk (w : World) (s : Bool) (a b : Option Addr) (k c j d : Nat) (s' : Bool) (a' b' : Option Addr) (k' c' j' d' : Nat) (sR : Bool) (nR dR : Nat) (hN : ∀ V, Ext w V → Calls Tryz.prog 158 #[.agg #[.bool s, .slice a k c, .slice b j d], .agg #[.bool s', .slice a' k' c', .slice b' j' d']] V (RatOfOk sR nR dR V)) :
    Calls Tryz.prog 97 #[.agg #[.bool s, .slice a k c, .slice b j d], .agg #[.bool s', .slice a' k' c', .slice b' j' d']] w (RatOf sR nR dR w) := by
  have HN := Lib.hid hN; clear hN
  have fd0 := Tryz.rat_num
  have fd1 := Tryz.rat_den
  go_enter Tryz.func97, Tryz.ntmps97
  go_wp2_with fail
  obtain ⟨W, hW, x0, Z0, A0, A1, A2⟩ := boxes3 w 55 [.bool s, .slice a k c, .slice b j d] 55 [.bool s', .slice a' k' c', .slice b' j' d'] 55 [.bool false, .slice none 0 0, .slice none 0 0]
  rw [← hW]
  clear hW
  obtain ⟨k0_0, k0_1, k0_2, f0_0, f0_1, f0_2⟩ := box3 A0 (Ext.refl _)
  have z0 := (A0.ext (Ext.refl _)).lt
  obtain ⟨k1_0, k1_1, k1_2, f1_0, f1_1, f1_2⟩ := box3 A1 (Ext.refl _)
  have z1 := (A1.ext (Ext.refl _)).lt
  obtain ⟨k2_0, k2_1, k2_2, f2_0, f2_1, f2_2⟩ := box3 A2 (Ext.refl _)
  have z2 := (A2.ext (Ext.refl _)).lt
  refine (HN.out _ x0).mono ?_
  rintro e w1 ⟨a1, c1, b1, d1, rfl, r1, f1, q1, g1, x1⟩
  go_upto_region 2 with fail
  obtain ⟨W2, hW2, y2, ZZ2, P0⟩ := boxes1 w1 55 [.bool sR, .slice a1 (len nR) c1, .slice b1 (len dR) d1]
  rw [← hW2]
  clear hW2
  have g2 : Ext W W2 := x1.trans y2
  obtain ⟨k0_0, k0_1, k0_2, f0_0, f0_1, f0_2⟩ := box3 A0 g2
  have z0 := (A0.ext g2).lt
  obtain ⟨k1_0, k1_1, k1_2, f1_0, f1_1, f1_2⟩ := box3 A1 g2
  have z1 := (A1.ext g2).lt
  obtain ⟨k2_0, k2_1, k2_2, f2_0, f2_1, f2_2⟩ := box3 A2 g2
  have z2 := (A2.ext g2).lt
  obtain ⟨p0, p1, p2, p3, p4, p5⟩ := box3 P0 (Ext.refl _)
  go_wp2_with fail
  have fin : RatOf sR nR dR W (.returned (.agg #[.bool sR, .slice a1 (len nR) c1, .slice b1 (len dR) d1])) W2 := ⟨_, _, _, _, rfl, r1.ext y2, f1, q1.ext y2, g1, g2⟩
  exact bodyPost_ret (by simp [results, Tryz.results97, go_sem, k2_0, k2_1, k2_2]) rfl (RatOf.touch fin x0 (Touch.three _ (by omega) (by rw [Z0.out]; omega) _ _ _))

set_option maxHeartbeats 2000000 in
set_option maxRecDepth 100000 in
/-- ref03.Max, over its callees. -/
theorem r3_Max_ge (w : World) (s : Bool) (a b : Option Addr) (k c j d : Nat) (s' : Bool) (a' b' : Option Addr) (k' c' j' d' : Nat) (sR : Bool) (nR dR : Nat) (z : Int) (hz : 0 ≤ z) (hC : ∀ V, Ext w V → Calls Tryz.prog 28 #[.agg #[.bool s, .slice a k c, .slice b j d], .agg #[.bool s', .slice a' k' c', .slice b' j' d']] V fun e w' => e = .returned (.int .i64 z) ∧ Ext V w') (hN : ∀ V, Ext w V → Calls Tryz.prog 74 #[.agg #[.bool s, .slice a k c, .slice b j d]] V (RatOf sR nR dR V)) :
    Calls Tryz.prog 44 #[.agg #[.bool s, .slice a k c, .slice b j d], .agg #[.bool s', .slice a' k' c', .slice b' j' d']] w (RatOf sR nR dR w) := by
  have HC := Lib.hid hC; have HN := Lib.hid hN; clear hC hN
  have fd0 := Tryz.rat_num
  have fd1 := Tryz.rat_den
  go_enter Tryz.func44, Tryz.ntmps44
  go_wp2_with fail
  obtain ⟨W, hW, x0, Z0, A0, A1, A2⟩ := boxes3 w 55 [.bool s, .slice a k c, .slice b j d] 55 [.bool s', .slice a' k' c', .slice b' j' d'] 55 [.bool false, .slice none 0 0, .slice none 0 0]
  rw [← hW]
  clear hW
  obtain ⟨k0_0, k0_1, k0_2, f0_0, f0_1, f0_2⟩ := box3 A0 (Ext.refl _)
  have z0 := (A0.ext (Ext.refl _)).lt
  obtain ⟨k1_0, k1_1, k1_2, f1_0, f1_1, f1_2⟩ := box3 A1 (Ext.refl _)
  have z1 := (A1.ext (Ext.refl _)).lt
  obtain ⟨k2_0, k2_1, k2_2, f2_0, f2_1, f2_2⟩ := box3 A2 (Ext.refl _)
  have z2 := (A2.ext (Ext.refl _)).lt
  refine (HC.out _ x0).mono ?_
  rintro e w1 ⟨rfl, x1⟩
  obtain ⟨k0_0, k0_1, k0_2, f0_0, f0_1, f0_2⟩ := box3 A0 x1
  have z0 := (A0.ext x1).lt
  obtain ⟨k1_0, k1_1, k1_2, f1_0, f1_1, f1_2⟩ := box3 A1 x1
  have z1 := (A1.ext x1).lt
  obtain ⟨k2_0, k2_1, k2_2, f2_0, f2_1, f2_2⟩ := box3 A2 x1
  have z2 := (A2.ext x1).lt
  go_wp2_with fail
  refine (HN.out _ (x0.trans x1)).mono ?_
  intro e w2 hfin
  obtain ⟨a2, c2, b2, d2, rfl, r2, f2, q2, g2, x2⟩ := id hfin
  obtain ⟨k0_0, k0_1, k0_2, f0_0, f0_1, f0_2⟩ := box3 A0 (x1.trans x2)
  have z0 := (A0.ext (x1.trans x2)).lt
  obtain ⟨k1_0, k1_1, k1_2, f1_0, f1_1, f1_2⟩ := box3 A1 (x1.trans x2)
  have z1 := (A1.ext (x1.trans x2)).lt
  obtain ⟨k2_0, k2_1, k2_2, f2_0, f2_1, f2_2⟩ := box3 A2 (x1.trans x2)
  have z2 := (A2.ext (x1.trans x2)).lt
  go_wp2_with fail
  exact bodyPost_ret (by simp [results, Tryz.results44, go_sem, k2_0, k2_1, k2_2]) rfl (RatOf.touch (hfin.base x1) x0 (Touch.three _ (by omega) (by rw [Z0.out]; omega) _ _ _))

set_option maxHeartbeats 2000000 in
set_option maxRecDepth 100000 in
/-- ref03.Max, over its callees. -/
theorem r3_Max_lt (w : World) (s : Bool) (a b : Option Addr) (k c j d : Nat) (s' : Bool) (a' b' : Option Addr) (k' c' j' d' : Nat) (sR : Bool) (nR dR : Nat) (z : Int) (hz : z < 0) (hC : ∀ V, Ext w V → Calls Tryz.prog 28 #[.agg #[.bool s, .slice a k c, .slice b j d], .agg #[.bool s', .slice a' k' c', .slice b' j' d']] V fun e w' => e = .returned (.int .i64 z) ∧ Ext V w') (hN : ∀ V, Ext w V → Calls Tryz.prog 74 #[.agg #[.bool s', .slice a' k' c', .slice b' j' d']] V (RatOf sR nR dR V)) :
    Calls Tryz.prog 44 #[.agg #[.bool s, .slice a k c, .slice b j d], .agg #[.bool s', .slice a' k' c', .slice b' j' d']] w (RatOf sR nR dR w) := by
  have HC := Lib.hid hC; have HN := Lib.hid hN; clear hC hN
  have fd0 := Tryz.rat_num
  have fd1 := Tryz.rat_den
  go_enter Tryz.func44, Tryz.ntmps44
  go_wp2_with fail
  obtain ⟨W, hW, x0, Z0, A0, A1, A2⟩ := boxes3 w 55 [.bool s, .slice a k c, .slice b j d] 55 [.bool s', .slice a' k' c', .slice b' j' d'] 55 [.bool false, .slice none 0 0, .slice none 0 0]
  rw [← hW]
  clear hW
  obtain ⟨k0_0, k0_1, k0_2, f0_0, f0_1, f0_2⟩ := box3 A0 (Ext.refl _)
  have z0 := (A0.ext (Ext.refl _)).lt
  obtain ⟨k1_0, k1_1, k1_2, f1_0, f1_1, f1_2⟩ := box3 A1 (Ext.refl _)
  have z1 := (A1.ext (Ext.refl _)).lt
  obtain ⟨k2_0, k2_1, k2_2, f2_0, f2_1, f2_2⟩ := box3 A2 (Ext.refl _)
  have z2 := (A2.ext (Ext.refl _)).lt
  refine (HC.out _ x0).mono ?_
  rintro e w1 ⟨rfl, x1⟩
  obtain ⟨k0_0, k0_1, k0_2, f0_0, f0_1, f0_2⟩ := box3 A0 x1
  have z0 := (A0.ext x1).lt
  obtain ⟨k1_0, k1_1, k1_2, f1_0, f1_1, f1_2⟩ := box3 A1 x1
  have z1 := (A1.ext x1).lt
  obtain ⟨k2_0, k2_1, k2_2, f2_0, f2_1, f2_2⟩ := box3 A2 x1
  have z2 := (A2.ext x1).lt
  go_wp2_with fail
  refine (HN.out _ (x0.trans x1)).mono ?_
  intro e w2 hfin
  obtain ⟨a2, c2, b2, d2, rfl, r2, f2, q2, g2, x2⟩ := id hfin
  obtain ⟨k0_0, k0_1, k0_2, f0_0, f0_1, f0_2⟩ := box3 A0 (x1.trans x2)
  have z0 := (A0.ext (x1.trans x2)).lt
  obtain ⟨k1_0, k1_1, k1_2, f1_0, f1_1, f1_2⟩ := box3 A1 (x1.trans x2)
  have z1 := (A1.ext (x1.trans x2)).lt
  obtain ⟨k2_0, k2_1, k2_2, f2_0, f2_1, f2_2⟩ := box3 A2 (x1.trans x2)
  have z2 := (A2.ext (x1.trans x2)).lt
  go_wp2_with fail
  exact bodyPost_ret (by simp [results, Tryz.results44, go_sem, k2_0, k2_1, k2_2]) rfl (RatOf.touch (hfin.base x1) x0 (Touch.three _ (by omega) (by rw [Z0.out]; omega) _ _ _))

theorem sub_sign (p q : Rat) : (p - q).num.sign = cmpQ p q := by
  rcases cmpQ_cases p q with h | h | h
  · have h1 : p < q := cmpQ_lt.1 (by omega)
    have h2 : p - q < 0 := by
      rw [Rat.lt_iff_sub_pos] at h1 ⊢
      have e : 0 - (p - q) = q - p := by grind
      rw [e]; exact h1
    have h3 : (p - q).num < 0 := by
      apply Int.lt_of_not_ge
      intro h4
      exact absurd (Rat.num_nonneg.1 h4) (Rat.not_le.2 h2)
    rw [h, Int.sign_eq_neg_one_of_neg h3]
  · have h1 : p = q := cmpQ_eq.1 h
    rw [h, h1, Rat.sub_self]; rfl
  · have h1 : q < p := cmpQ_gt.1 (by omega)
    rw [Rat.lt_iff_sub_pos] at h1
    have h3 : 0 < (p - q).num := by
      have h4 : 0 ≤ (p - q).num := Rat.num_nonneg.2 (Rat.le_of_lt h1)
      have h5 : (p - q).num ≠ 0 := fun e => by
        rw [Rat.num_eq_zero.1 e] at h1; exact absurd h1 (Rat.lt_irrefl)
      omega
    rw [h, Int.sign_eq_one_of_pos h3]

/-- ref03.Sub. -/
theorem r3_Sub (w : World) (s : Bool) (a b : Option Addr) (k c j d n m : Nat) (h : Raw w a k c n) (g : Raw w b j d m) (s' : Bool) (a' b' : Option Addr) (k' c' j' d' n' m' : Nat) (h' : Raw w a' k' c' n') (g' : Raw w b' j' d' m') (b1 : k < 200000000) (b2 : j < 200000000) (b1' : k' < 200000000) (b2' : j' < 200000000) : Calls Tryz.prog 42 #[.agg #[.bool s, .slice a k c, .slice b j d], .agg #[.bool s', .slice a' k' c', .slice b' j' d']] w (NewRat (mkRat (sgn s n) m - mkRat (sgn s' n') m') w) := by
  obtain ⟨l3, l4⟩ := rat_lens s' n' m' h'.len_le g'.len_le b1' b2'
  have hN := fun V (hV : Ext w V) => (r3_Neg V s' a' b' k' c' j' d' n' m' (h'.ext hV) (g'.ext hV) b1' b2').mono (fun _ _ hh => hh.ratOf)
  generalize mkRat (sgn s' n') m' = Q at *
  refine (r3_Sub_walk w s a b k c j d s' a' b' k' c' j' d' _ _ _ _ _ _ hN ?_).mono (fun _ _ hh => hh.newRat)
  intro V a1 c1 b1' d1 hV hR hR'
  have := r3_Add V s a b k c j d n m (h.ext hV) (g.ext hV) (decide ((-Q).num < 0)) a1 b1' _ c1 _ d1 _ _ hR hR' b1 b2 (by rw [Rat.neg_num, Int.natAbs_neg]; omega) (by rw [Rat.neg_den]; omega)
  rw [sgn_dec, Rat.mkRat_self, ← Rat.sub_eq_add_neg] at this
  exact this

/-- ref03.Compare. -/
theorem r3_Compare (w : World) (s : Bool) (a b : Option Addr) (k c j d n m : Nat) (h : Raw w a k c n) (g : Raw w b j d m) (s' : Bool) (a' b' : Option Addr) (k' c' j' d' n' m' : Nat) (h' : Raw w a' k' c' n') (g' : Raw w b' j' d' m') (b1 : k < 60000000) (b2 : j < 60000000) (b1' : k' < 60000000) (b2' : j' < 60000000) : Calls Tryz.prog 28 #[.agg #[.bool s, .slice a k c, .slice b j d], .agg #[.bool s', .slice a' k' c', .slice b' j' d']] w fun e w' => e = .returned (.int .i64 (cmpQ (mkRat (sgn s n) m) (mkRat (sgn s' n') m'))) ∧ Ext w w' := by
  have hN := fun V (hV : Ext w V) => (r3_Sub V s a b k c j d n m (h.ext hV) (g.ext hV) s' a' b' k' c' j' d' n' m' (h'.ext hV) (g'.ext hV) (by omega) (by omega) (by omega) (by omega)).mono (fun _ _ hh => hh.ratOf)
  have hl : rsz (mkRat (sgn s n) m - mkRat (sgn s' n') m') < 150000000 := by
    have h1 := rsz_mkRat (sgn s n) m
    have h2 := rsz_mkRat (sgn s' n') m'
    rw [sgn_natAbs] at h1 h2
    have h3 := rsz_sub (mkRat (sgn s n) m) (mkRat (sgn s' n') m')
    have h4 := h.len_le
    have h5 := g.len_le
    have h6 := h'.len_le
    have h7 := g'.len_le
    omega
  rw [← sub_sign]
  generalize mkRat (sgn s n) m - mkRat (sgn s' n') m' = D at *
  have hl1 := rsz_num D
  have hl2 := rsz_den D
  refine r3_Compare_walk w s a b k c j d s' a' b' k' c' j' d' _ _ _ _ hN ?_
  intro V a1 c1 b1' d1 hV hR hR'
  have := r3_Sign V (decide (D.num < 0)) a1 b1' _ c1 _ d1 _ _ hR hR' (by omega) (by omega)
  rw [sgn_dec, Rat.mkRat_self] at this
  exact this

/-- ref03.Over by a number other than 0. -/
theorem r3_Over (w : World) (s : Bool) (a b : Option Addr) (k c j d n m : Nat) (h : Raw w a k c n) (g : Raw w b j d m) (s' : Bool) (a' b' : Option Addr) (k' c' j' d' n' m' : Nat) (h' : Raw w a' k' c' n') (g' : Raw w b' j' d' m') (b1 : k < 200000000) (b2 : j < 200000000) (b1' : k' < 200000000) (b2' : j' < 200000000) (h0 : ¬ mkRat (sgn s' n') m' = 0) : Calls Tryz.prog 97 #[.agg #[.bool s, .slice a k c, .slice b j d], .agg #[.bool s', .slice a' k' c', .slice b' j' d']] w (NewRat (mkRat (sgn s n) m / mkRat (sgn s' n') m') w) :=
  (r3_Over_walk w s a b k c j d s' a' b' k' c' j' d' _ _ _ (fun V (hV : Ext w V) => r3_Div V s a b k c j d n m (h.ext hV) (g.ext hV) s' a' b' k' c' j' d' n' m' (h'.ext hV) (g'.ext hV) b1 b2 b1' b2' h0)).mono (fun _ _ hh => hh.newRat)

/-- The greater number. -/
def maxQ (p q : Rat) : Rat := if q ≤ p then p else q

/-- ref03.Max. -/
theorem r3_Max (w : World) (s : Bool) (a b : Option Addr) (k c j d n m : Nat) (h : Raw w a k c n) (g : Raw w b j d m) (s' : Bool) (a' b' : Option Addr) (k' c' j' d' n' m' : Nat) (h' : Raw w a' k' c' n') (g' : Raw w b' j' d' m') (b1 : k < 60000000) (b2 : j < 60000000) (b1' : k' < 60000000) (b2' : j' < 60000000) : Calls Tryz.prog 44 #[.agg #[.bool s, .slice a k c, .slice b j d], .agg #[.bool s', .slice a' k' c', .slice b' j' d']] w (NewRat (maxQ (mkRat (sgn s n) m) (mkRat (sgn s' n') m')) w) := by
  have hC := fun V (hV : Ext w V) => r3_Compare V s a b k c j d n m (h.ext hV) (g.ext hV) s' a' b' k' c' j' d' n' m' (h'.ext hV) (g'.ext hV) b1 b2 b1' b2'
  have hN := fun V (hV : Ext w V) => (r3_Norm V s a b k c j d n m (h.ext hV) (g.ext hV) (by omega) (by omega)).mono (fun _ _ hh => hh.ratOf)
  have hN' := fun V (hV : Ext w V) => (r3_Norm V s' a' b' k' c' j' d' n' m' (h'.ext hV) (g'.ext hV) (by omega) (by omega)).mono (fun _ _ hh => hh.ratOf)
  generalize mkRat (sgn s n) m = P at *
  generalize mkRat (sgn s' n') m' = Q at *
  unfold maxQ
  by_cases hpq : Q ≤ P
  · rw [if_pos hpq]
    have hz : 0 ≤ cmpQ P Q := by
      apply Int.not_lt.1; intro hh
      exact absurd (cmpQ_lt.1 hh) (Rat.not_lt.2 hpq)
    exact (r3_Max_ge w s a b k c j d s' a' b' k' c' j' d' _ _ _ _ hz hC hN).mono (fun _ _ hh => hh.newRat)
  · rw [if_neg hpq]
    have hz : cmpQ P Q < 0 := cmpQ_lt.2 (Rat.not_le.1 hpq)
    exact (r3_Max_lt w s a b k c j d s' a' b' k' c' j' d' _ _ _ _ hz hC hN').mono (fun _ _ hh => hh.newRat)

end Go.Proofs.YtgihpfkjpfanmaaGreat
