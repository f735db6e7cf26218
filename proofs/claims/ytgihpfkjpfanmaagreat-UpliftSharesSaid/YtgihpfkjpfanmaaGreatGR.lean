/- Texts of the proof: Ap5, Ap6. -/
import Derived.Test.YtgihpfkjpfanmaaGreatGL
/- settlement.Apportion: its errors. -/
namespace Go.Proofs.YtgihpfkjpfanmaaGreat
open Go.RowKit

set_option maxHeartbeats 4000000 in
set_option maxRecDepth 100000 in
theorem ap_unb (w : World) (a : Option Addr) (c L : Nat) (rs : List RVal) (qs : List Rat) (h : Rats w a c rs qs L) (hn : rs.length ≤ 128) (hL : L < 100000) (hall : ∀ i (hi : i < rs.length), apOk (qs[i]'(by rw [h.len]; exact hi)))
    (hF1 : -72057594037927936 ≤ (qsum qs).floor) (hF2 : (qsum qs).floor ≤ 72057594037927936) (hint : ¬ qsum qs = (((qsum qs).floor : Int) : Rat)) (hszS : rsz (qsum qs) < 100000000) :
    Calls Tryz.prog 33 #[.slice a rs.length c] w fun e w' => e = .returned (.tuple #[.slice none 0 0, .int .i64 14]) ∧ Ext w w' := by
  have hle := h.le
  have hSb : rs.length * (L + 2) + L + 1 < 100000000 := by
    have := Nat.mul_le_mul hn (show L + 2 ≤ 100002 by omega)
    omega
  have hcap := h.cap
  have hsh := h.short
  go_enter Tryz.func33, Tryz.ntmps33
  go_wp2_with fail
  refine (rat_FromInt _ _ (by decide) (by decide)).mono ?_
  intro e w1 hN
  obtain ⟨r1, rfl, hr1, hx1⟩ := hN.isCan
  have lim := hr1.isRat
  clear hN
  go_upto_region 4 with fail
  obtain ⟨W, hW, x0, Z0, A0⟩ := boxes1 w1 55 [.bool r1.s, .slice r1.a r1.k r1.c, .slice r1.b r1.j r1.d]
  rw [← hW]
  clear hW
  have xW : Ext w W := hx1.trans x0
  have limW : IsRat W r1 apMost 2 := (lim.ext x0).mono (by show rsz (((281474976710656 : Int) : Rat)) ≤ 2; rw [rsz_int]; decide)
  have hW := h.ext xW
  clear lim hr1
  go_wp2_with fail
  go_loopw [23] (fun ii wr => ∃ j : Nat, j ≤ rs.length ∧ Ext W wr ∧ ii = .int .i64 j) (fun ii _ => rs.length - (intOf ii).toNat)
  case atStart => exact ⟨0, Nat.zero_le _, Ext.refl _, rfl⟩
  case round =>
    obtain ⟨j, hj, hE, rfl⟩ := hrel
    by_cases hlt : j < rs.length
    · have hq := hW.ext hE
      obtain ⟨b, o, rfl⟩ := h.at (by omega)
      obtain ⟨b', o', e', c0, c1, c2⟩ := hq.cell j hlt
      cases e'
      obtain ⟨n2, m2', g1, g2, gq, gl1, gl2⟩ := hq.num j hlt
      obtain ⟨n1, m1', f1, f2, fq, fl1, fl2⟩ := limW.ext hE
      have hC1 := fun V (hV : Ext wr V) => rat_Compare V rs[j].s _ _ _ _ _ _ _ _ (g1.ext hV) (g2.ext hV) r1.s _ _ _ _ _ _ _ _ (f1.ext hV) (f2.ext hV) (by omega) (by omega) (by omega) (by omega)
      have hNg := fun V (hV : Ext wr V) => (rat_Neg V rs[j].s _ _ _ _ _ _ _ _ (g1.ext hV) (g2.ext hV) (by omega) (by omega)).mono (fun _ _ hh => hh.ratOf)
      have hrz : rsz (-(qs[j]'(by rw [h.len]; exact hlt))) < 100000000 := by
        rw [rsz_neg]
        have := (hq.num j hlt).rsz
        omega
      have hC2 : ∀ V a1 c1 b1 d1, Ext wr V → Raw V a1 (len (-(mkRat (sgn rs[j].s n2) m2')).num.natAbs) c1 (-(mkRat (sgn rs[j].s n2) m2')).num.natAbs → Raw V b1 (len (-(mkRat (sgn rs[j].s n2) m2')).den) d1 (-(mkRat (sgn rs[j].s n2) m2')).den → Calls Tryz.prog 68 #[.agg #[.bool (decide ((-(mkRat (sgn rs[j].s n2) m2')).num < 0)), .slice a1 (len (-(mkRat (sgn rs[j].s n2) m2')).num.natAbs) c1, .slice b1 (len (-(mkRat (sgn rs[j].s n2) m2')).den) d1], .agg #[.bool r1.s, .slice r1.a r1.k r1.c, .slice r1.b r1.j r1.d]] V fun e w' => e = .returned (.int .i64 (cmpQ (-(mkRat (sgn rs[j].s n2) m2')) (mkRat (sgn r1.s n1) m1'))) ∧ Ext V w' := by
        intro V a1 c1 b1 d1 hV hR hR'
        rw [← gq] at *
        have l1 := rsz_num (-(qs[j]'(by rw [h.len]; exact hlt)))
        have l2 := rsz_den (-(qs[j]'(by rw [h.len]; exact hlt)))
        have := rat_Compare V (decide ((-(qs[j]'(by rw [h.len]; exact hlt))).num < 0)) a1 b1 _ c1 _ d1 _ _ hR hR' r1.s _ _ _ _ _ _ _ _ (f1.ext hV) (f2.ext hV) (by omega) (by omega) (by omega) (by omega)
        rw [sgn_num, Rat.mkRat_self] at this
        exact this
      rw [← fq] at hC1 hC2
      rw [← gq] at hC1 hNg hC2
      have hok := hall j hlt
      have z1 := cmpQ_pos_false hok.1
      have z2 := cmpQ_pos_false hok.2
      generalize cmpQ (qs[j]'(by rw [h.len]; exact hlt)) apMost = t1 at hC1 z1
      generalize cmpQ (-(qs[j]'(by rw [h.len]; exact hlt))) apMost = t2 at hC2 z2
      generalize decide ((-(qs[j]'(by rw [h.len]; exact hlt))).num < 0) = sN at hNg hC2
      generalize (-(qs[j]'(by rw [h.len]; exact hlt))).num.natAbs = nN at hNg hC2
      generalize (-(qs[j]'(by rw [h.len]; exact hlt))).den = dN at hNg hC2
      generalize rs[j] = y at *
      clear gq fq hok hq
      have HC1 := Lib.hid hC1; have HNg := Lib.hid hNg; have HC2 := Lib.hid hC2
      clear hC1 hNg hC2
      go_upto_region 7 with fail
      obtain ⟨V, hV, xv, Zv, Av⟩ := boxes1 wr 55 [.bool y.s, .slice y.a y.k y.c, .slice y.b y.j y.d]
      rw [← hV]
      clear hV
      obtain ⟨m0, m1, m2, -, -, -⟩ := box3 Av (Ext.refl _)
      obtain ⟨k0, k1, k2, -, -, -⟩ := box3 A0 (hE.trans xv)
      clear c0 c1 c2
      have HC1 := Lib.hid (fun U (hU : Ext V U) => HC1.out U (xv.trans hU)); have HNg := Lib.hid (fun U (hU : Ext V U) => HNg.out U (xv.trans hU)); have HC2 := Lib.hid (fun U a c b d (hU : Ext V U) => HC2.out U a c b d (xv.trans hU))
      have tk1 : True := trivial
      go_region_held3 (fun w' => w'.cell? ⟨w1.heap.size, 0, none⟩ = some (.bool r1.s) ∧ w'.cell? ⟨w1.heap.size, 1, none⟩ = some (.slice r1.a r1.k r1.c) ∧ w'.cell? ⟨w1.heap.size, 2, none⟩ = some (.slice r1.b r1.j r1.d) ∧ w'.cell? ⟨wr.heap.size, 0, none⟩ = some (.bool y.s) ∧ w'.cell? ⟨wr.heap.size, 1, none⟩ = some (.slice y.a y.k y.c) ∧ w'.cell? ⟨wr.heap.size, 2, none⟩ = some (.slice y.b y.j y.d)) (first | exact ⟨k0, k1, k2, m0, m1, m2⟩) (first
        | (go_at_call 68; have _t := tk1; refine (HC1.out _ (by exact (Ext.refl _).drew)).mono ?_; rintro e w3 ⟨rfl, x3⟩; clear tk1 _t; have y3 : Ext V w3 := (Ext.refl _).drew.trans x3; have k0 := cell_ext ((Ext.refl _).drew.trans x3) k0; have k1 := cell_ext ((Ext.refl _).drew.trans x3) k1; have k2 := cell_ext ((Ext.refl _).drew.trans x3) k2; have m0 := cell_ext ((Ext.refl _).drew.trans x3) m0; have m1 := cell_ext ((Ext.refl _).drew.trans x3) m1; have m2 := cell_ext ((Ext.refl _).drew.trans x3) m2)
        | (go_at_call 81; refine (HNg.out _ (by exact y3)).mono ?_; rintro e w4 ⟨a4, c4, b4, d4, rfl, r4, f4, q4, g4, x4⟩; have y4 : Ext V w4 := y3.trans x4; have k0 := cell_ext x4 k0; have k1 := cell_ext x4 k1; have k2 := cell_ext x4 k2; have m0 := cell_ext x4 m0; have m1 := cell_ext x4 m1; have m2 := cell_ext x4 m2)
        | (go_at_call 68; refine (HC2.out _ _ _ _ _ (by exact y4) r4 q4).mono ?_; rintro e w5 ⟨rfl, x5⟩; have y5 : Ext V w5 := y4.trans x5; have k0 := cell_ext x5 k0; have k1 := cell_ext x5 k1; have k2 := cell_ext x5 k2; have m0 := cell_ext x5 m0; have m1 := cell_ext x5 m1; have m2 := cell_ext x5 m2))
      go_wp2_with fail
      go_roundw
      case rel => exact ⟨j + 1, by omega, (hE.trans xv).trans y5, by go_num⟩
      case measure => simp [intOf] <;> omega
    · obtain rfl : j = rs.length := by omega
      go_wp2_with fail
      refine (rat_Sum _ _ _ _ _ _ (hW.ext hE) hSb).mono ?_
      intro e w2 hN
      obtain ⟨r2, rfl, hr2, hx2⟩ := hN.isCan
      clear hN
      have hS2 := hr2.isRat
      have f2 := hr2.fa
      have f2' := hr2.fb
      clear hr2
      obtain ⟨n5, m5, g1, g2, gq, gl1, gl2⟩ := hS2
      have hFl := fun V (hV : Ext w2 V) => (rat_Floor V r2.s _ _ _ _ _ _ _ _ (g1.ext hV) (g2.ext hV) (by omega) (by omega)).mono (fun _ _ hh => hh.intOf)
      have hFr := fun V => (rat_FromInt V (qsum qs).floor (by omega) (by omega)).mono (fun _ _ hh => hh.ratOf)
      have hVal : ∀ V a c, Raw V a (len (qsum qs).floor.natAbs) c (qsum qs).floor.natAbs → Calls Tryz.prog 83 #[.agg #[.bool (decide ((qsum qs).floor < 0)), .slice a (len (qsum qs).floor.natAbs) c]] V fun e w' => e = .returned (.tuple #[.int .i64 (qsum qs).floor, .bool true]) ∧ Ext V w' := by
        intro V a c hR
        have := int_Value V (decide ((qsum qs).floor < 0)) a _ c _ hR (by rw [sgn_num]; omega) (by rw [sgn_num]; omega)
        rw [sgn_num] at this
        exact this
      have hCm : ∀ V a1 c1 b1 d1, Ext w2 V → Raw V a1 (len (((qsum qs).floor : Int) : Rat).num.natAbs) c1 (((qsum qs).floor : Int) : Rat).num.natAbs → Raw V b1 (len (((qsum qs).floor : Int) : Rat).den) d1 (((qsum qs).floor : Int) : Rat).den → Calls Tryz.prog 68 #[.agg #[.bool r2.s, .slice r2.a r2.k r2.c, .slice r2.b r2.j r2.d], .agg #[.bool (decide ((((qsum qs).floor : Int) : Rat).num < 0)), .slice a1 (len (((qsum qs).floor : Int) : Rat).num.natAbs) c1, .slice b1 (len (((qsum qs).floor : Int) : Rat).den) d1]] V fun e w' => e = .returned (.int .i64 (cmpQ (mkRat (sgn r2.s n5) m5) (((qsum qs).floor : Int) : Rat))) ∧ Ext V w' := by
        intro V a1 c1 b1 d1 hV hR hR'
        have l1 := rsz_num (((qsum qs).floor : Int) : Rat)
        have l2 := rsz_den (((qsum qs).floor : Int) : Rat)
        have l3 := rsz_int (qsum qs).floor
        have l4 := len_natAbs_i64 (z := (qsum qs).floor) (by omega) (by omega)
        have := rat_Compare V r2.s _ _ _ _ _ _ _ _ (g1.ext hV) (g2.ext hV) (decide ((((qsum qs).floor : Int) : Rat).num < 0)) a1 b1 _ c1 _ d1 _ _ hR hR' (by omega) (by omega) (by omega) (by omega)
        rw [sgn_num, Rat.mkRat_self] at this
        exact this
      rw [← gq] at hFl hCm
      have hcz : ((cmpQ (qsum qs) (((qsum qs).floor : Int) : Rat)) != 0) = true := by rw [bne_iff_ne]; exact fun e => hint (cmpQ_eq.1 e)
      generalize cmpQ (qsum qs) (((qsum qs).floor : Int) : Rat) = zc at hCm hcz
      generalize decide ((((qsum qs).floor : Int) : Rat).num < 0) = sM at hFr hCm
      generalize (((qsum qs).floor : Int) : Rat).num.natAbs = nM at hFr hCm
      generalize (((qsum qs).floor : Int) : Rat).den = dM at hFr hCm
      generalize decide ((qsum qs).floor < 0) = sF at hFl hVal
      generalize (qsum qs).floor.natAbs = nF at hFl hVal
      obtain ⟨F, hF⟩ : ∃ F, F = (qsum qs).floor := ⟨_, rfl⟩
      rw [← hF] at hFr hVal hF1 hF2
      have HFl := Lib.hid hFl; have HFr := Lib.hid hFr; have HVal := Lib.hid hVal; have HCm := Lib.hid hCm; have HF := Lib.hid hF
      clear hFl hFr hVal hCm gq hF
      go_upto_region 11 with fail
      obtain ⟨W3, hW3, x3, Z3, A3⟩ := boxes1 w2 55 [.bool r2.s, .slice r2.a r2.k r2.c, .slice r2.b r2.j r2.d]
      rw [← hW3]
      clear hW3
      obtain ⟨k0, k1, k2, -, -, -⟩ := box3 A3 (Ext.refl _)
      go_wp2_with fail
      refine (HFl.out _ x3).mono ?_
      rintro e w4 ⟨a4, c4, rfl, r4, f4, x4⟩
      go_wp2_with fail
      refine (HVal.out _ _ _ r4).mono ?_
      rintro e w5 ⟨rfl, x5⟩
      clear k0 k1 k2
      have y5 : Ext W3 w5 := x4.trans x5
      obtain ⟨k0, k1, k2, -, -, -⟩ := box3 A3 y5
      go_wp2_with fail
      go_region_held3 (fun w' => w'.cell? ⟨w2.heap.size, 0, none⟩ = some (.bool r2.s) ∧ w'.cell? ⟨w2.heap.size, 1, none⟩ = some (.slice r2.a r2.k r2.c) ∧ w'.cell? ⟨w2.heap.size, 2, none⟩ = some (.slice r2.b r2.j r2.d)) (first | exact ⟨k0, k1, k2⟩) (first
        | (go_at_call 80; refine (HFr.out _).mono ?_; rintro e w6 ⟨a6, c6, b6, d6, rfl, r6, f6, q6, g6, x6⟩; have y6 : Ext W3 w6 := (y5.drew).trans x6; have k0 := cell_ext ((Ext.refl _).drew.trans x6) k0; have k1 := cell_ext ((Ext.refl _).drew.trans x6) k1; have k2 := cell_ext ((Ext.refl _).drew.trans x6) k2)
        | (go_at_call 68; refine (HCm.out _ _ _ _ _ (by exact x3.trans y6) r6 q6).mono ?_; rintro e w7 ⟨rfl, x7⟩; have y7 : Ext W3 w7 := y6.trans x7; have k0 := cell_ext x7 k0; have k1 := cell_ext x7 k1; have k2 := cell_ext x7 k2))
      have xE : Ext w w7 := ((xW.trans hE).trans hx2).trans (x3.trans y7)
      clear k0 k1 k2 HFl HFr HVal HCm
      go_wp2_with fail
      go_ret2
      exact ⟨rfl, xE⟩

set_option maxHeartbeats 4000000 in
set_option maxRecDepth 100000 in
theorem ap_big (w : World) (a : Option Addr) (c L : Nat) (rs : List RVal) (qs : List Rat) (h : Rats w a c rs qs L) (hn : rs.length ≤ 128) (hL : L < 100000) (jb : Nat) (hjb : jb < rs.length) (hall : ∀ i (hi : i < jb), apOk (qs[i]'(by rw [h.len]; omega))) (hbad : ¬ apOk (qs[jb]'(by rw [h.len]; exact hjb))) :
    Calls Tryz.prog 33 #[.slice a rs.length c] w fun e w' => e = .returned (.tuple #[.slice none 0 0, .int .i64 8]) ∧ Ext w w' := by
  have hle := h.le
  have hcap := h.cap
  have hsh := h.short
  go_enter Tryz.func33, Tryz.ntmps33
  go_wp2_with fail
  refine (rat_FromInt _ _ (by decide) (by decide)).mono ?_
  intro e w1 hN
  obtain ⟨r1, rfl, hr1, hx1⟩ := hN.isCan
  have lim := hr1.isRat
  clear hN
  go_upto_region 4 with fail
  obtain ⟨W, hW, x0, Z0, A0⟩ := boxes1 w1 55 [.bool r1.s, .slice r1.a r1.k r1.c, .slice r1.b r1.j r1.d]
  rw [← hW]
  clear hW
  have xW : Ext w W := hx1.trans x0
  have limW : IsRat W r1 apMost 2 := (lim.ext x0).mono (by show rsz (((281474976710656 : Int) : Rat)) ≤ 2; rw [rsz_int]; decide)
  have hW := h.ext xW
  clear lim hr1
  go_wp2_with fail
  go_loopw [23] (fun ii wr => ∃ j : Nat, j ≤ jb ∧ Ext W wr ∧ ii = .int .i64 j) (fun ii _ => rs.length - (intOf ii).toNat)
  case atStart => exact ⟨0, Nat.zero_le _, Ext.refl _, rfl⟩
  case round =>
    obtain ⟨j, hj, hE, rfl⟩ := hrel
    have hlt : j < rs.length := by omega
    · have hq := hW.ext hE
      obtain ⟨b, o, rfl⟩ := h.at (by omega)
      obtain ⟨b', o', e', c0, c1, c2⟩ := hq.cell j hlt
      cases e'
      obtain ⟨n2, m2', g1, g2, gq, gl1, gl2⟩ := hq.num j hlt
      obtain ⟨n1, m1', f1, f2, fq, fl1, fl2⟩ := limW.ext hE
      have hC1 := fun V (hV : Ext wr V) => rat_Compare V rs[j].s _ _ _ _ _ _ _ _ (g1.ext hV) (g2.ext hV) r1.s _ _ _ _ _ _ _ _ (f1.ext hV) (f2.ext hV) (by omega) (by omega) (by omega) (by omega)
      have hNg := fun V (hV : Ext wr V) => (rat_Neg V rs[j].s _ _ _ _ _ _ _ _ (g1.ext hV) (g2.ext hV) (by omega) (by omega)).mono (fun _ _ hh => hh.ratOf)
      have hrz : rsz (-(qs[j]'(by rw [h.len]; exact hlt))) < 100000000 := by
        rw [rsz_neg]
        have := (hq.num j hlt).rsz
        omega
      have hC2 : ∀ V a1 c1 b1 d1, Ext wr V → Raw V a1 (len (-(mkRat (sgn rs[j].s n2) m2')).num.natAbs) c1 (-(mkRat (sgn rs[j].s n2) m2')).num.natAbs → Raw V b1 (len (-(mkRat (sgn rs[j].s n2) m2')).den) d1 (-(mkRat (sgn rs[j].s n2) m2')).den → Calls Tryz.prog 68 #[.agg #[.bool (decide ((-(mkRat (sgn rs[j].s n2) m2')).num < 0)), .slice a1 (len (-(mkRat (sgn rs[j].s n2) m2')).num.natAbs) c1, .slice b1 (len (-(mkRat (sgn rs[j].s n2) m2')).den) d1], .agg #[.bool r1.s, .slice r1.a r1.k r1.c, .slice r1.b r1.j r1.d]] V fun e w' => e = .returned (.int .i64 (cmpQ (-(mkRat (sgn rs[j].s n2) m2')) (mkRat (sgn r1.s n1) m1'))) ∧ Ext V w' := by
        intro V a1 c1 b1 d1 hV hR hR'
        rw [← gq] at *
        have l1 := rsz_num (-(qs[j]'(by rw [h.len]; exact hlt)))
        have l2 := rsz_den (-(qs[j]'(by rw [h.len]; exact hlt)))
        have := rat_Compare V (decide ((-(qs[j]'(by rw [h.len]; exact hlt))).num < 0)) a1 b1 _ c1 _ d1 _ _ hR hR' r1.s _ _ _ _ _ _ _ _ (f1.ext hV) (f2.ext hV) (by omega) (by omega) (by omega) (by omega)
        rw [sgn_num, Rat.mkRat_self] at this
        exact this
      rw [← fq] at hC1 hC2
      rw [← gq] at hC1 hNg hC2
      have hz : (j < jb ∧ decide ((0 : Int) < cmpQ (qs[j]'(by rw [h.len]; exact hlt)) apMost) = false ∧ decide ((0 : Int) < cmpQ (-(qs[j]'(by rw [h.len]; exact hlt))) apMost) = false) ∨ decide ((0 : Int) < cmpQ (qs[j]'(by rw [h.len]; exact hlt)) apMost) = true ∨ (decide ((0 : Int) < cmpQ (qs[j]'(by rw [h.len]; exact hlt)) apMost) = false ∧ decide ((0 : Int) < cmpQ (-(qs[j]'(by rw [h.len]; exact hlt))) apMost) = true) := by
        by_cases hjj : j < jb
        · have hok := hall j hjj
          exact Or.inl ⟨hjj, cmpQ_pos_false hok.1, cmpQ_pos_false hok.2⟩
        · obtain rfl : j = jb := by omega
          by_cases h1 : (qs[j]'(by rw [h.len]; exact hlt)) ≤ apMost
          · exact Or.inr (Or.inr ⟨cmpQ_pos_false h1, cmpQ_pos_true (fun h2 => hbad ⟨h1, h2⟩)⟩)
          · exact Or.inr (Or.inl (cmpQ_pos_true h1))
      generalize cmpQ (qs[j]'(by rw [h.len]; exact hlt)) apMost = t1 at hC1 hz
      generalize cmpQ (-(qs[j]'(by rw [h.len]; exact hlt))) apMost = t2 at hC2 hz
      generalize decide ((-(qs[j]'(by rw [h.len]; exact hlt))).num < 0) = sN at hNg hC2
      generalize (-(qs[j]'(by rw [h.len]; exact hlt))).num.natAbs = nN at hNg hC2
      generalize (-(qs[j]'(by rw [h.len]; exact hlt))).den = dN at hNg hC2
      generalize rs[j] = y at *
      clear gq fq hq
      have HC1 := Lib.hid hC1; have HNg := Lib.hid hNg; have HC2 := Lib.hid hC2
      clear hC1 hNg hC2
      go_upto_region 7 with fail
      obtain ⟨V, hV, xv, Zv, Av⟩ := boxes1 wr 55 [.bool y.s, .slice y.a y.k y.c, .slice y.b y.j y.d]
      rw [← hV]
      clear hV
      obtain ⟨m0, m1, m2, -, -, -⟩ := box3 Av (Ext.refl _)
      obtain ⟨k0, k1, k2, -, -, -⟩ := box3 A0 (hE.trans xv)
      clear c0 c1 c2
      have HC1 := Lib.hid (fun U (hU : Ext V U) => HC1.out U (xv.trans hU)); have HNg := Lib.hid (fun U (hU : Ext V U) => HNg.out U (xv.trans hU)); have HC2 := Lib.hid (fun U a c b d (hU : Ext V U) => HC2.out U a c b d (xv.trans hU))
      rcases hz with ⟨hjj, z1, z2⟩ | z1 | ⟨z1, z2⟩
      · have tk1 : True := trivial
        go_region_held3 (fun w' => w'.cell? ⟨w1.heap.size, 0, none⟩ = some (.bool r1.s) ∧ w'.cell? ⟨w1.heap.size, 1, none⟩ = some (.slice r1.a r1.k r1.c) ∧ w'.cell? ⟨w1.heap.size, 2, none⟩ = some (.slice r1.b r1.j r1.d) ∧ w'.cell? ⟨wr.heap.size, 0, none⟩ = some (.bool y.s) ∧ w'.cell? ⟨wr.heap.size, 1, none⟩ = some (.slice y.a y.k y.c) ∧ w'.cell? ⟨wr.heap.size, 2, none⟩ = some (.slice y.b y.j y.d)) (first | exact ⟨k0, k1, k2, m0, m1, m2⟩) (first
          | (go_at_call 68; have _t := tk1; refine (HC1.out _ (by exact (Ext.refl _).drew)).mono ?_; rintro e w3 ⟨rfl, x3⟩; clear tk1 _t; have y3 : Ext V w3 := (Ext.refl _).drew.trans x3; have k0 := cell_ext ((Ext.refl _).drew.trans x3) k0; have k1 := cell_ext ((Ext.refl _).drew.trans x3) k1; have k2 := cell_ext ((Ext.refl _).drew.trans x3) k2; have m0 := cell_ext ((Ext.refl _).drew.trans x3) m0; have m1 := cell_ext ((Ext.refl _).drew.trans x3) m1; have m2 := cell_ext ((Ext.refl _).drew.trans x3) m2)
          | (go_at_call 81; refine (HNg.out _ (by exact y3)).mono ?_; rintro e w4 ⟨a4, c4, b4, d4, rfl, r4, f4, q4, g4, x4⟩; have y4 : Ext V w4 := y3.trans x4; have k0 := cell_ext x4 k0; have k1 := cell_ext x4 k1; have k2 := cell_ext x4 k2; have m0 := cell_ext x4 m0; have m1 := cell_ext x4 m1; have m2 := cell_ext x4 m2)
          | (go_at_call 68; refine (HC2.out _ _ _ _ _ (by exact y4) r4 q4).mono ?_; rintro e w5 ⟨rfl, x5⟩; have y5 : Ext V w5 := y4.trans x5; have k0 := cell_ext x5 k0; have k1 := cell_ext x5 k1; have k2 := cell_ext x5 k2; have m0 := cell_ext x5 m0; have m1 := cell_ext x5 m1; have m2 := cell_ext x5 m2))
        go_wp2_with fail
        go_roundw
        case rel => exact ⟨j + 1, by omega, (hE.trans xv).trans y5, by go_num⟩
        case measure => simp [intOf] <;> omega
      · go_region_with (go_at_call 68; refine (HC1.out _ (by exact (Ext.refl _).drew)).mono ?_; rintro e w3 ⟨rfl, x3⟩; have y3 : Ext V w3 := (Ext.refl _).drew.trans x3)
        all_goals go_wp2_with fail
        all_goals go_ret2
        all_goals exact ⟨rfl, ((xW.trans hE).trans xv).trans y3⟩
      · have tk1 : True := trivial
        go_region_held3 (fun w' => w'.cell? ⟨w1.heap.size, 0, none⟩ = some (.bool r1.s) ∧ w'.cell? ⟨w1.heap.size, 1, none⟩ = some (.slice r1.a r1.k r1.c) ∧ w'.cell? ⟨w1.heap.size, 2, none⟩ = some (.slice r1.b r1.j r1.d) ∧ w'.cell? ⟨wr.heap.size, 0, none⟩ = some (.bool y.s) ∧ w'.cell? ⟨wr.heap.size, 1, none⟩ = some (.slice y.a y.k y.c) ∧ w'.cell? ⟨wr.heap.size, 2, none⟩ = some (.slice y.b y.j y.d)) (first | exact ⟨k0, k1, k2, m0, m1, m2⟩) (first
          | (go_at_call 68; have _t := tk1; refine (HC1.out _ (by exact (Ext.refl _).drew)).mono ?_; rintro e w3 ⟨rfl, x3⟩; clear tk1 _t; have y3 : Ext V w3 := (Ext.refl _).drew.trans x3; have k0 := cell_ext ((Ext.refl _).drew.trans x3) k0; have k1 := cell_ext ((Ext.refl _).drew.trans x3) k1; have k2 := cell_ext ((Ext.refl _).drew.trans x3) k2; have m0 := cell_ext ((Ext.refl _).drew.trans x3) m0; have m1 := cell_ext ((Ext.refl _).drew.trans x3) m1; have m2 := cell_ext ((Ext.refl _).drew.trans x3) m2)
          | (go_at_call 81; refine (HNg.out _ (by exact y3)).mono ?_; rintro e w4 ⟨a4, c4, b4, d4, rfl, r4, f4, q4, g4, x4⟩; have y4 : Ext V w4 := y3.trans x4; have k0 := cell_ext x4 k0; have k1 := cell_ext x4 k1; have k2 := cell_ext x4 k2; have m0 := cell_ext x4 m0; have m1 := cell_ext x4 m1; have m2 := cell_ext x4 m2)
          | (go_at_call 68; refine (HC2.out _ _ _ _ _ (by exact y4) r4 q4).mono ?_; rintro e w5 ⟨rfl, x5⟩; have y5 : Ext V w5 := y4.trans x5; have k0 := cell_ext x5 k0; have k1 := cell_ext x5 k1; have k2 := cell_ext x5 k2; have m0 := cell_ext x5 m0; have m1 := cell_ext x5 m1; have m2 := cell_ext x5 m2))
        go_wp2_with fail
        go_ret2
        exact ⟨rfl, ((xW.trans hE).trans xv).trans y5⟩

end Go.Proofs.YtgihpfkjpfanmaaGreat

/- settlement.Apportion of no number. -/
namespace Go.Proofs.YtgihpfkjpfanmaaGreat
open Go.RowKit Go.Shelf

theorem Tryz.sortL0 : Go.Proofs.SlLaysF0.n6 Tryz.prog Tryz.sortL_ren := { Tryz.sortL with }

theorem ap_sort0 (w : World) (pb g blk n L c : Nat) (rs : List RVal) (fs : List Rat) (_hp : w.cell? ⟨pb, 0, none⟩ = some (.slice (some ⟨g, 0, none⟩) n n)) (_hR : Rats w (some ⟨g, 0, none⟩) n rs fs L) (_hn : rs.length = n) (_hL : L < 100000000) (h0 : n = 0) (_hn2 : n < 1000000)
    (_hpb : pb ≠ blk) (_hg : g ≠ blk) (_hb : ∀ i (hi : i < rs.length), (∀ x, rs[i].a = some x → x.block ≠ blk) ∧ (∀ x, rs[i].b = some x → x.block ≠ blk))
    (_hO : ∀ j, j < n → w.cell? ⟨blk, j, none⟩ = some (.int .i64 (j : Nat)) ∧ w.frozen? ⟨blk, j, none⟩ = false) :
    Calls Tryz.prog 65 #[.slice (some ⟨blk, 0, none⟩) n c, .func (.func 86) #[] #[.pointer (some ⟨pb, 0, none⟩)]] w fun e w' => e = .returned (.tuple #[]) ∧ Sorted fs n blk w w' := by
  subst h0
  have hS := AnyF.slices_SortFunc_none Tryz.sortL0 (some ⟨blk, 0, none⟩) c (.func (.func 86) #[] #[.pointer (some ⟨pb, 0, none⟩)]) w
  change Calls Tryz.prog 65 _ _ _ at hS
  refine hS.mono ?_
  rintro e w' ⟨he, rfl⟩
  exact ⟨he, ⟨fun j hj => absurd hj (Nat.not_lt_zero _), fun _ _ _ => rfl, Nat.le_refl _, rfl, rfl, rfl, Nat.le_refl _⟩⟩

set_option maxHeartbeats 4000000 in
set_option maxRecDepth 100000 in
theorem ap_zero (w : World) (a : Option Addr) (c L : Nat) (rs : List RVal) (qs : List Rat) (h : Rats w a c rs qs L) (hn : rs.length ≤ 128) (hL : L < 100000) (hall : ∀ i (hi : i < rs.length), apOk (qs[i]'(by rw [h.len]; exact hi)))
    (hF1 : -72057594037927936 ≤ (qsum qs).floor) (hF2 : (qsum qs).floor ≤ 72057594037927936) (hint : qsum qs = (((qsum qs).floor : Int) : Rat)) (h0n : rs.length = 0) (hm0 : isum (qs.map Rat.floor) ≤ (qsum qs).floor) (hm1 : (qsum qs).floor ≤ isum (qs.map Rat.floor) + rs.length) (hszS : rsz (qsum qs) < 100000000) :
    Calls Tryz.prog 33 #[.slice a rs.length c] w (ApGood (apInc (fracs qs) rs.length (qs.map Rat.floor) ((qsum qs).floor - isum (qs.map Rat.floor)).toNat) w) := by
  obtain ⟨out, hout⟩ : ∃ out, out = apInc (fracs qs) rs.length (qs.map Rat.floor) ((qsum qs).floor - isum (qs.map Rat.floor)).toNat := ⟨_, rfl⟩
  rw [← hout]
  have HOUT := Lib.hid hout
  clear hout
  have H0N := Lib.hid h0n
  clear h0n
  have hle := h.le
  have hSb : rs.length * (L + 2) + L + 1 < 100000000 := by
    have := Nat.mul_le_mul hn (show L + 2 ≤ 100002 by omega)
    omega
  have hcap := h.cap
  have hsh := h.short
  go_enter Tryz.func33, Tryz.ntmps33
  go_wp2_with fail
  refine (rat_FromInt _ _ (by decide) (by decide)).mono ?_
  intro e w1 hN
  obtain ⟨r1, rfl, hr1, hx1⟩ := hN.isCan
  have lim := hr1.isRat
  clear hN
  go_upto_region 4 with fail
  obtain ⟨W, hW, x0, Z0, A0⟩ := boxes1 w1 55 [.bool r1.s, .slice r1.a r1.k r1.c, .slice r1.b r1.j r1.d]
  rw [← hW]
  clear hW
  have xW : Ext w W := hx1.trans x0
  have limW : IsRat W r1 apMost 2 := (lim.ext x0).mono (by show rsz (((281474976710656 : Int) : Rat)) ≤ 2; rw [rsz_int]; decide)
  have hW := h.ext xW
  clear lim hr1
  go_wp2_with fail
  go_loopw [23] (fun ii wr => ∃ j : Nat, j ≤ rs.length ∧ Ext W wr ∧ ii = .int .i64 j) (fun ii _ => rs.length - (intOf ii).toNat)
  case atStart => exact ⟨0, Nat.zero_le _, Ext.refl _, rfl⟩
  case round =>
    obtain ⟨j, hj, hE, rfl⟩ := hrel
    by_cases hlt : j < rs.length
    · have hq := hW.ext hE
      obtain ⟨b, o, rfl⟩ := h.at (by omega)
      obtain ⟨b', o', e', c0, c1, c2⟩ := hq.cell j hlt
      cases e'
      obtain ⟨n2, m2', g1, g2, gq, gl1, gl2⟩ := hq.num j hlt
      obtain ⟨n1, m1', f1, f2, fq, fl1, fl2⟩ := limW.ext hE
      have hC1 := fun V (hV : Ext wr V) => rat_Compare V rs[j].s _ _ _ _ _ _ _ _ (g1.ext hV) (g2.ext hV) r1.s _ _ _ _ _ _ _ _ (f1.ext hV) (f2.ext hV) (by omega) (by omega) (by omega) (by omega)
      have hNg := fun V (hV : Ext wr V) => (rat_Neg V rs[j].s _ _ _ _ _ _ _ _ (g1.ext hV) (g2.ext hV) (by omega) (by omega)).mono (fun _ _ hh => hh.ratOf)
      have hrz : rsz (-(qs[j]'(by rw [h.len]; exact hlt))) < 100000000 := by
        rw [rsz_neg]
        have := (hq.num j hlt).rsz
        omega
      have hC2 : ∀ V a1 c1 b1 d1, Ext wr V → Raw V a1 (len (-(mkRat (sgn rs[j].s n2) m2')).num.natAbs) c1 (-(mkRat (sgn rs[j].s n2) m2')).num.natAbs → Raw V b1 (len (-(mkRat (sgn rs[j].s n2) m2')).den) d1 (-(mkRat (sgn rs[j].s n2) m2')).den → Calls Tryz.prog 68 #[.agg #[.bool (decide ((-(mkRat (sgn rs[j].s n2) m2')).num < 0)), .slice a1 (len (-(mkRat (sgn rs[j].s n2) m2')).num.natAbs) c1, .slice b1 (len (-(mkRat (sgn rs[j].s n2) m2')).den) d1], .agg #[.bool r1.s, .slice r1.a r1.k r1.c, .slice r1.b r1.j r1.d]] V fun e w' => e = .returned (.int .i64 (cmpQ (-(mkRat (sgn rs[j].s n2) m2')) (mkRat (sgn r1.s n1) m1'))) ∧ Ext V w' := by
        intro V a1 c1 b1 d1 hV hR hR'
        rw [← gq] at *
        have l1 := rsz_num (-(qs[j]'(by rw [h.len]; exact hlt)))
        have l2 := rsz_den (-(qs[j]'(by rw [h.len]; exact hlt)))
        have := rat_Compare V (decide ((-(qs[j]'(by rw [h.len]; exact hlt))).num < 0)) a1 b1 _ c1 _ d1 _ _ hR hR' r1.s _ _ _ _ _ _ _ _ (f1.ext hV) (f2.ext hV) (by omega) (by omega) (by omega) (by omega)
        rw [sgn_num, Rat.mkRat_self] at this
        exact this
      rw [← fq] at hC1 hC2
      rw [← gq] at hC1 hNg hC2
      have hok := hall j hlt
      have z1 := cmpQ_pos_false hok.1
      have z2 := cmpQ_pos_false hok.2
      generalize cmpQ (qs[j]'(by rw [h.len]; exact hlt)) apMost = t1 at hC1 z1
      generalize cmpQ (-(qs[j]'(by rw [h.len]; exact hlt))) apMost = t2 at hC2 z2
      generalize decide ((-(qs[j]'(by rw [h.len]; exact hlt))).num < 0) = sN at hNg hC2
      generalize (-(qs[j]'(by rw [h.len]; exact hlt))).num.natAbs = nN at hNg hC2
      generalize (-(qs[j]'(by rw [h.len]; exact hlt))).den = dN at hNg hC2
      generalize rs[j] = y at *
      clear gq fq hok hq
      have HC1 := Lib.hid hC1; have HNg := Lib.hid hNg; have HC2 := Lib.hid hC2
      clear hC1 hNg hC2
      go_upto_region 7 with fail
      obtain ⟨V, hV, xv, Zv, Av⟩ := boxes1 wr 55 [.bool y.s, .slice y.a y.k y.c, .slice y.b y.j y.d]
      rw [← hV]
      clear hV
      obtain ⟨m0, m1, m2, -, -, -⟩ := box3 Av (Ext.refl _)
      obtain ⟨k0, k1, k2, -, -, -⟩ := box3 A0 (hE.trans xv)
      clear c0 c1 c2
      have HC1 := Lib.hid (fun U (hU : Ext V U) => HC1.out U (xv.trans hU)); have HNg := Lib.hid (fun U (hU : Ext V U) => HNg.out U (xv.trans hU)); have HC2 := Lib.hid (fun U a c b d (hU : Ext V U) => HC2.out U a c b d (xv.trans hU))
      have tk1 : True := trivial
      go_region_held3 (fun w' => w'.cell? ⟨w1.heap.size, 0, none⟩ = some (.bool r1.s) ∧ w'.cell? ⟨w1.heap.size, 1, none⟩ = some (.slice r1.a r1.k r1.c) ∧ w'.cell? ⟨w1.heap.size, 2, none⟩ = some (.slice r1.b r1.j r1.d) ∧ w'.cell? ⟨wr.heap.size, 0, none⟩ = some (.bool y.s) ∧ w'.cell? ⟨wr.heap.size, 1, none⟩ = some (.slice y.a y.k y.c) ∧ w'.cell? ⟨wr.heap.size, 2, none⟩ = some (.slice y.b y.j y.d)) (first | exact ⟨k0, k1, k2, m0, m1, m2⟩) (first
        | (go_at_call 68; have _t := tk1; refine (HC1.out _ (by exact (Ext.refl _).drew)).mono ?_; rintro e w3 ⟨rfl, x3⟩; clear tk1 _t; have y3 : Ext V w3 := (Ext.refl _).drew.trans x3; have k0 := cell_ext ((Ext.refl _).drew.trans x3) k0; have k1 := cell_ext ((Ext.refl _).drew.trans x3) k1; have k2 := cell_ext ((Ext.refl _).drew.trans x3) k2; have m0 := cell_ext ((Ext.refl _).drew.trans x3) m0; have m1 := cell_ext ((Ext.refl _).drew.trans x3) m1; have m2 := cell_ext ((Ext.refl _).drew.trans x3) m2)
        | (go_at_call 81; refine (HNg.out _ (by exact y3)).mono ?_; rintro e w4 ⟨a4, c4, b4, d4, rfl, r4, f4, q4, g4, x4⟩; have y4 : Ext V w4 := y3.trans x4; have k0 := cell_ext x4 k0; have k1 := cell_ext x4 k1; have k2 := cell_ext x4 k2; have m0 := cell_ext x4 m0; have m1 := cell_ext x4 m1; have m2 := cell_ext x4 m2)
        | (go_at_call 68; refine (HC2.out _ _ _ _ _ (by exact y4) r4 q4).mono ?_; rintro e w5 ⟨rfl, x5⟩; have y5 : Ext V w5 := y4.trans x5; have k0 := cell_ext x5 k0; have k1 := cell_ext x5 k1; have k2 := cell_ext x5 k2; have m0 := cell_ext x5 m0; have m1 := cell_ext x5 m1; have m2 := cell_ext x5 m2))
      go_wp2_with fail
      go_roundw
      case rel => exact ⟨j + 1, by omega, (hE.trans xv).trans y5, by go_num⟩
      case measure => simp [intOf] <;> omega
    · obtain rfl : j = rs.length := by omega
      go_wp2_with fail
      refine (rat_Sum _ _ _ _ _ _ (hW.ext hE) hSb).mono ?_
      intro e w2 hN
      obtain ⟨r2, rfl, hr2, hx2⟩ := hN.isCan
      clear hN
      have hS2 := hr2.isRat
      have f2 := hr2.fa
      have f2' := hr2.fb
      clear hr2
      obtain ⟨n5, m5, g1, g2, gq, gl1, gl2⟩ := hS2
      have hFl := fun V (hV : Ext w2 V) => (rat_Floor V r2.s _ _ _ _ _ _ _ _ (g1.ext hV) (g2.ext hV) (by omega) (by omega)).mono (fun _ _ hh => hh.intOf)
      have hFr := fun V => (rat_FromInt V (qsum qs).floor (by omega) (by omega)).mono (fun _ _ hh => hh.ratOf)
      have hVal : ∀ V a c, Raw V a (len (qsum qs).floor.natAbs) c (qsum qs).floor.natAbs → Calls Tryz.prog 83 #[.agg #[.bool (decide ((qsum qs).floor < 0)), .slice a (len (qsum qs).floor.natAbs) c]] V fun e w' => e = .returned (.tuple #[.int .i64 (qsum qs).floor, .bool true]) ∧ Ext V w' := by
        intro V a c hR
        have := int_Value V (decide ((qsum qs).floor < 0)) a _ c _ hR (by rw [sgn_num]; omega) (by rw [sgn_num]; omega)
        rw [sgn_num] at this
        exact this
      have hCm : ∀ V a1 c1 b1 d1, Ext w2 V → Raw V a1 (len (((qsum qs).floor : Int) : Rat).num.natAbs) c1 (((qsum qs).floor : Int) : Rat).num.natAbs → Raw V b1 (len (((qsum qs).floor : Int) : Rat).den) d1 (((qsum qs).floor : Int) : Rat).den → Calls Tryz.prog 68 #[.agg #[.bool r2.s, .slice r2.a r2.k r2.c, .slice r2.b r2.j r2.d], .agg #[.bool (decide ((((qsum qs).floor : Int) : Rat).num < 0)), .slice a1 (len (((qsum qs).floor : Int) : Rat).num.natAbs) c1, .slice b1 (len (((qsum qs).floor : Int) : Rat).den) d1]] V fun e w' => e = .returned (.int .i64 (cmpQ (mkRat (sgn r2.s n5) m5) (((qsum qs).floor : Int) : Rat))) ∧ Ext V w' := by
        intro V a1 c1 b1 d1 hV hR hR'
        have l1 := rsz_num (((qsum qs).floor : Int) : Rat)
        have l2 := rsz_den (((qsum qs).floor : Int) : Rat)
        have l3 := rsz_int (qsum qs).floor
        have l4 := len_natAbs_i64 (z := (qsum qs).floor) (by omega) (by omega)
        have := rat_Compare V r2.s _ _ _ _ _ _ _ _ (g1.ext hV) (g2.ext hV) (decide ((((qsum qs).floor : Int) : Rat).num < 0)) a1 b1 _ c1 _ d1 _ _ hR hR' (by omega) (by omega) (by omega) (by omega)
        rw [sgn_num, Rat.mkRat_self] at this
        exact this
      rw [← gq] at hFl hCm
      have hcz : ((cmpQ (qsum qs) (((qsum qs).floor : Int) : Rat)) != 0) = false := by rw [bne_eq_false_iff_eq]; exact cmpQ_eq.2 hint
      generalize cmpQ (qsum qs) (((qsum qs).floor : Int) : Rat) = zc at hCm hcz
      generalize decide ((((qsum qs).floor : Int) : Rat).num < 0) = sM at hFr hCm
      generalize (((qsum qs).floor : Int) : Rat).num.natAbs = nM at hFr hCm
      generalize (((qsum qs).floor : Int) : Rat).den = dM at hFr hCm
      generalize decide ((qsum qs).floor < 0) = sF at hFl hVal
      generalize (qsum qs).floor.natAbs = nF at hFl hVal
      obtain ⟨F, hF⟩ : ∃ F, F = (qsum qs).floor := ⟨_, rfl⟩
      rw [← hF] at hFr hVal hF1 hF2
      have HFl := Lib.hid hFl; have HFr := Lib.hid hFr; have HVal := Lib.hid hVal; have HCm := Lib.hid hCm; have HF := Lib.hid hF
      clear hFl hFr hVal hCm gq hF
      go_upto_region 11 with fail
      obtain ⟨W3, hW3, x3, Z3, A3⟩ := boxes1 w2 55 [.bool r2.s, .slice r2.a r2.k r2.c, .slice r2.b r2.j r2.d]
      rw [← hW3]
      clear hW3
      obtain ⟨k0, k1, k2, -, -, -⟩ := box3 A3 (Ext.refl _)
      go_wp2_with fail
      refine (HFl.out _ x3).mono ?_
      rintro e w4 ⟨a4, c4, rfl, r4, f4, x4⟩
      go_wp2_with fail
      refine (HVal.out _ _ _ r4).mono ?_
      rintro e w5 ⟨rfl, x5⟩
      clear k0 k1 k2
      have y5 : Ext W3 w5 := x4.trans x5
      obtain ⟨k0, k1, k2, -, -, -⟩ := box3 A3 y5
      go_wp2_with fail
      go_region_held3 (fun w' => w'.cell? ⟨w2.heap.size, 0, none⟩ = some (.bool r2.s) ∧ w'.cell? ⟨w2.heap.size, 1, none⟩ = some (.slice r2.a r2.k r2.c) ∧ w'.cell? ⟨w2.heap.size, 2, none⟩ = some (.slice r2.b r2.j r2.d)) (first | exact ⟨k0, k1, k2⟩) (first
        | (go_at_call 80; refine (HFr.out _).mono ?_; rintro e w6 ⟨a6, c6, b6, d6, rfl, r6, f6, q6, g6, x6⟩; have y6 : Ext W3 w6 := (y5.drew).trans x6; have k0 := cell_ext ((Ext.refl _).drew.trans x6) k0; have k1 := cell_ext ((Ext.refl _).drew.trans x6) k1; have k2 := cell_ext ((Ext.refl _).drew.trans x6) k2)
        | (go_at_call 68; refine (HCm.out _ _ _ _ _ (by exact x3.trans y6) r6 q6).mono ?_; rintro e w7 ⟨rfl, x7⟩; have y7 : Ext W3 w7 := y6.trans x7; have k0 := cell_ext x7 k0; have k1 := cell_ext x7 k1; have k2 := cell_ext x7 k2))
      have xE : Ext w w7 := ((xW.trans hE).trans hx2).trans (x3.trans y7)
      clear k0 k1 k2 HFl HFr HVal HCm
      go_upto_region 15 with (at_make; refine wpList_make_one _ rfl _ _ 22 rfl 3 (.int .i64 0) 8 Tryz.underlying22 Tryz.info_int rfl _ _ rs.length rfl rfl (by go_num) (by go_num) (by omega) (by omega) ?_; intro w8 hw8 hx8 hz8)
      go_upto_region 16 with (at_make; refine wpList_make_three _ rfl _ _ 48 rfl 55 (.agg zero3.toArray) 56 Tryz.underlying48 Tryz.info_rat rfl _ _ rs.length rfl rfl (by go_num) (by go_num) (by omega) (by omega) ?_; intro w9 hw9 hx9 hz9)
      obtain ⟨Wp, hWp, xp, Zp, Ap⟩ := boxes1 w9 48 [.slice (some ⟨w8.heap.size, 0, none⟩) rs.length rs.length]
      rw [← hWp]
      clear hWp
      go_upto_region 17 with (at_make; refine wpList_make_one _ rfl _ _ 22 rfl 3 (.int .i64 0) 8 Tryz.underlying22 Tryz.info_int rfl _ _ rs.length rfl rfl (by go_num) (by go_num) (by omega) (by omega) ?_; intro w10 hw10 hx10 hz10)
      have xE10 : Ext w w10 := (((xE.trans hx8).trans hx9).trans xp).trans hx10
      have z8 := hz8.out
      have z9 := hz9.out
      have zp := Zp.out
      have z10 := hz10.out
      have sw7 := xE.size
      obtain ⟨bw, hbw⟩ : ∃ bw, bw = w7.heap.size := ⟨_, rfl⟩
      obtain ⟨bg, hbg⟩ : ∃ bg, bg = w8.heap.size := ⟨_, rfl⟩
      obtain ⟨pb, hpb⟩ : ∃ pb, pb = w9.heap.size := ⟨_, rfl⟩
      obtain ⟨bo, hbo⟩ : ∃ bo, bo = Wp.heap.size := ⟨_, rfl⟩
      obtain ⟨BB, hBB⟩ : ∃ BB, BB = w10.heap.size := ⟨_, rfl⟩
      have o1 : w.heap.size ≤ bw := by omega
      have o2 : bw < bg := by omega
      have o3 : bg < pb := by omega
      have o4 : pb < bo := by omega
      have o5 : bo < BB := by omega
      have aW : Arr w10 bw 3 (i64s (([] : List Int) ++ List.replicate rs.length 0)) := by
        have h5 := hw8.out
        rw [i64s_zeros, ← hbw] at h5
        exact ((h5.ext hx9).ext xp).ext hx10
      have aG : Arr w10 bg 55 (ratCells [] ++ zeros3 rs.length) := by
        have h5 := hw9.out
        rw [← hbg] at h5
        exact (h5.ext xp).ext hx10
      have aP : Arr w10 pb 48 [.slice (some ⟨bg, 0, none⟩) rs.length rs.length] := by
        rw [hpb, hbg]; exact Ap.ext hx10
      have aO : Arr w10 bo 3 (i64s (([] : List Int) ++ List.replicate rs.length 0)) := by
        have h5 := hw10.out
        rw [i64s_zeros, ← hbo] at h5
        exact h5
      rw [← hbw, ← hbg, ← hpb, ← hbo]
      have HBB := Lib.hid hBB
      clear hw8 hw9 hw10 Ap hz8 hz9 Zp hz10 z8 z9 zp z10 sw7 hx8 hx9 xp hx10 hbw hbg hpb hbo hBB hE hx2 x3 y7 y6 y5 x7 x6 r6 q6 f6 g6 r4 f4 x4 x5 A3 hW limW A0 x0 xW f2 f2' g1 g2
      have SI : Hid (ApAt w qs rs.length bw bg pb bo BB F 0 w10) := ⟨[], rfl, Nat.zero_le _, aW, aG, aP, aO, fun k hk => absurd hk (by simp), xE10, by rw [HBB.out]; exact Nat.le_refl _⟩
      go_wp2_with fail
      go_loopw [8, 63] (fun s8 ii wr => ∃ i : Nat, ApAt w qs rs.length bw bg pb bo BB F i wr ∧ s8 = .int .i64 (F - isum ((qs.map Rat.floor).take i)) ∧ ii = .int .i64 i) (fun _ ii _ => rs.length - (intOf ii).toNat)
      case atStart => exact ⟨0, SI.out, by show _ = Value.int .i64 (F - 0); rw [Int.sub_zero], rfl⟩
      case round =>
        obtain ⟨i, hAt, rfl, rfl⟩ := hrel
        obtain ⟨prs, hpl, hi, aW, aG, aP, aO, hcan, hxw, hBw⟩ := hAt
        by_cases hlt : i < rs.length
        · have hil : i < qs.length := by rw [h.len]; exact hlt
          obtain ⟨b, o, rfl⟩ := h.at (by omega)
          obtain ⟨b', o', e', c0, c1, c2⟩ := (h.ext hxw).cell i hlt
          cases e'
          obtain ⟨n2, m2', g1, g2, gq, gl1, gl2⟩ := h.num i hlt
          have hqi : qs[i]?.getD 0 = qs[i]'hil := by rw [List.getElem?_eq_getElem hil]; rfl
          have hok := hall i hlt
          obtain ⟨fl1, fl2⟩ := apOk_floor hok
          have hFl := fun V (hV : Ext w V) => (rat_Floor V rs[i].s _ _ _ _ _ _ _ _ (g1.ext hV) (g2.ext hV) (by omega) (by omega)).mono (fun _ _ hh => hh.intOf)
          rw [← gq] at hFl
          have hrz : rsz (qs[i]'hil) < 100000000 := by have := (h.num i hlt).rsz; omega
          have hFr := fun V => (rat_FromInt V (qs[i]'hil).floor (by omega) (by omega)).mono (fun _ _ hh => hh.ratOf)
          have hVal : ∀ V a c, Raw V a (len (qs[i]'hil).floor.natAbs) c (qs[i]'hil).floor.natAbs → Calls Tryz.prog 83 #[.agg #[.bool (decide ((qs[i]'hil).floor < 0)), .slice a (len (qs[i]'hil).floor.natAbs) c]] V fun e w' => e = .returned (.tuple #[.int .i64 (qs[i]'hil).floor, .bool true]) ∧ Ext V w' := by
            intro V a c hR
            have := int_Value V (decide ((qs[i]'hil).floor < 0)) a _ c _ hR (by rw [sgn_num]; omega) (by rw [sgn_num]; omega)
            rw [sgn_num] at this
            exact this
          have hSub : ∀ V a1 c1 b1 d1, Ext w V → Raw V a1 (len (((qs[i]'hil).floor : Int) : Rat).num.natAbs) c1 (((qs[i]'hil).floor : Int) : Rat).num.natAbs → Raw V b1 (len (((qs[i]'hil).floor : Int) : Rat).den) d1 (((qs[i]'hil).floor : Int) : Rat).den → Calls Tryz.prog 85 #[.agg #[.bool rs[i].s, .slice rs[i].a rs[i].k rs[i].c, .slice rs[i].b rs[i].j rs[i].d], .agg #[.bool (decide ((((qs[i]'hil).floor : Int) : Rat).num < 0)), .slice a1 (len (((qs[i]'hil).floor : Int) : Rat).num.natAbs) c1, .slice b1 (len (((qs[i]'hil).floor : Int) : Rat).den) d1]] V (NewRat (qs[i]?.getD 0 - (((qs[i]?.getD 0).floor : Int) : Rat)) V) := by
            intro V a1 c1 b1 d1 hV hR hR'
            have l1 := rsz_num (((qs[i]'hil).floor : Int) : Rat)
            have l2 := rsz_den (((qs[i]'hil).floor : Int) : Rat)
            have l3 := rsz_int (qs[i]'hil).floor
            have l4 := len_natAbs_i64 (z := (qs[i]'hil).floor) (by omega) (by omega)
            have := rat_Sub V rs[i].s _ _ _ _ _ _ _ _ (g1.ext hV) (g2.ext hV) (decide ((((qs[i]'hil).floor : Int) : Rat).num < 0)) a1 b1 _ c1 _ d1 _ _ hR hR' (by omega) (by omega) (by omega) (by omega)
            rw [sgn_num, Rat.mkRat_self, ← gq] at this
            rw [hqi]
            exact this
          have hfs : (qs.map Rat.floor)[i]'(by simpa using hil) = (qs[i]'hil).floor := by simp
          have htk : (qs.map Rat.floor).take (i + 1) = (qs.map Rat.floor).take i ++ [(qs[i]'hil).floor] := by
            rw [List.take_succ_eq_append_getElem (by simpa using hil), hfs]
          have hisum : isum ((qs.map Rat.floor).take (i + 1)) = isum ((qs.map Rat.floor).take i) + (qs[i]'hil).floor := by
            rw [htk]; unfold isum; simp
          have hib := isum_bound ((qs.map Rat.floor).take i) 281474976710656 (by
            intro x hx
            obtain ⟨q, hq, rfl⟩ := List.mem_map.1 (List.mem_of_mem_take hx)
            obtain ⟨k, hk, rfl⟩ := List.getElem_of_mem hq
            exact apOk_floor (hall k (by rw [← h.len]; exact hk)))
          rw [List.length_take, List.length_map, Nat.min_eq_left (by omega)] at hib
          generalize decide ((((qs[i]'hil).floor : Int) : Rat).num < 0) = sM at hFr hSub
          generalize (((qs[i]'hil).floor : Int) : Rat).num.natAbs = nM at hFr hSub
          generalize (((qs[i]'hil).floor : Int) : Rat).den = dM at hFr hSub
          generalize decide ((qs[i]'hil).floor < 0) = sF at hFl hVal
          generalize (qs[i]'hil).floor.natAbs = nF at hFl hVal
          generalize (qs[i]'hil).floor = z at *
          have HFl := Lib.hid hFl; have HFr := Lib.hid hFr; have HVal := Lib.hid hVal; have HSub := Lib.hid hSub; have HTK := Lib.hid htk; have HIS := Lib.hid hisum
          clear hFl hFr hVal hSub htk hisum hfs gq g1 g2 hok hqi
          generalize rs[i] = y at *
          have b0 : (0 : Int) ≤ (i : Int) := by omega
          have b1 : (i : Int) < (rs.length : Int) := by omega
          go_upto_region 20 with fail
          obtain ⟨V0, hV0, xv, Zv, Av⟩ := boxes1 wr 55 [.bool y.s, .slice y.a y.k y.c, .slice y.b y.j y.d]
          rw [← hV0]
          clear hV0 c0 c1 c2
          obtain ⟨m0, m1, m2, -, -, -⟩ := box3 Av (Ext.refl _)
          go_wp2_with fail
          refine (HFl.out _ (hxw.trans xv)).mono ?_
          rintro e w11 ⟨a11, c11, rfl, r11, f11, x11⟩
          go_wp2_with fail
          refine (HVal.out _ _ _ r11).mono ?_
          rintro e w12 ⟨rfl, x12⟩
          clear m0 m1 m2 r11 f11
          have v12 : Ext wr w12 := (xv.trans x11).trans x12
          obtain ⟨m, hm⟩ : ∃ m, rs.length - i = m + 1 := ⟨rs.length - i - 1, by omega⟩
          have hm' : rs.length - (i + 1) = m := by omega
          rw [hm] at aW aG aO
          have eW : ((qs.map Rat.floor).take i).length = i := by rw [List.length_take, List.length_map]; omega
          have cW : w12.cell? ⟨bw, i, none⟩ = some (.int .i64 0) := by
            rw [(aW.ext v12).cell, i64s_get _ _ (by simp; omega)]
            congr 2
            rw [List.getElem_append_right (by omega)]; simp
          have fW := (aW.ext v12).frozen i
          have B1 : Arr (w12.setCell ⟨bw, i, none⟩ (.int .i64 z)) bw 3 (i64s ((qs.map Rat.floor).take (i + 1) ++ List.replicate m 0)) := by
            have h5 := (aW.ext v12).set i (.int .i64 z)
            have h6 := i64s_next ((qs.map Rat.floor).take i) m z
            rw [eW] at h6
            rw [h6, ← HTK.out] at h5
            exact h5
          have B2 := (aG.ext v12).other ⟨bw, i, none⟩ (.int .i64 z) (by simp only; omega)
          have B3 := (aP.ext v12).other ⟨bw, i, none⟩ (.int .i64 z) (by simp only; omega)
          have B4 := (aO.ext v12).other ⟨bw, i, none⟩ (.int .i64 z) (by simp only; omega)
          have B5 := (Av.ext (x11.trans x12)).other ⟨bw, i, none⟩ (.int .i64 z) (by simp only; omega)
          have B6 := fun k hk => ((hcan k hk).ext v12).setCell ⟨bw, i, none⟩ (.int .i64 z) (by simp only; omega)
          have B7 : Ext w (w12.setCell ⟨bw, i, none⟩ (.int .i64 z)) := (hxw.trans v12).setCell (by simp only; omega) _
          have B8 : BB ≤ (w12.setCell ⟨bw, i, none⟩ (.int .i64 z)).heap.size := by
            have := v12.size
            simp [World.setCell]; omega
          have s4 : (w12.setCell ⟨bw, i, none⟩ (.int .i64 z)).cell? ⟨bw, i, none⟩ = some (.int .i64 z) := by
            rw [B1.cell, i64s_get _ _ (by simp; omega)]
            congr 2
            rw [List.getElem_append_left (by simp; omega)]
            have h7 := HTK.out
            simp [h7, eW]
          go_upto_region 21 with fail
          clear cW fW aW aG aP aO hcan
          generalize w12.setCell ⟨bw, i, none⟩ (.int .i64 z) = V1 at *
          have s0 := B3.cell 0
          obtain ⟨s1, s2, s3, -, -, -⟩ := box3 B5 (Ext.refl _)
          simp at s0
          have hpc : (ratCells prs).length = i * 3 := by rw [ratCells_length, hpl]
          have HPC := Lib.hid hpc; clear hpc
          go_region_held3 (fun w' => w'.cell? ⟨pb, 0, none⟩ = some (.slice (some ⟨bg, 0, none⟩) rs.length rs.length) ∧ w'.cell? ⟨wr.heap.size, 0, none⟩ = some (.bool y.s) ∧ w'.cell? ⟨wr.heap.size, 1, none⟩ = some (.slice y.a y.k y.c) ∧ w'.cell? ⟨wr.heap.size, 2, none⟩ = some (.slice y.b y.j y.d) ∧ w'.cell? ⟨bw, i, none⟩ = some (.int .i64 z)) (first | exact ⟨s0, s1, s2, s3, s4⟩ | exact ⟨cell_three s0 (by simp only; omega), cell_three s1 (by simp only; omega), cell_three s2 (by simp only; omega), cell_three s3 (by simp only; omega), cell_three s4 (by simp only; omega)⟩) (first
            | (go_at_call 80; refine (HFr.out _).mono ?_; rintro e w13 ⟨a13, c13, b13, d13, rfl, r13, f13, q13, g13, x13⟩; have v13 : Ext V1 w13 := (Ext.refl _).drew.trans x13; have s0 := cell_ext ((Ext.refl _).drew.trans x13) s0; have s1 := cell_ext ((Ext.refl _).drew.trans x13) s1; have s2 := cell_ext ((Ext.refl _).drew.trans x13) s2; have s3 := cell_ext ((Ext.refl _).drew.trans x13) s3; have s4 := cell_ext ((Ext.refl _).drew.trans x13) s4)
            | (go_at_call 85; refine (HSub.out _ _ _ _ _ (by exact B7.trans v13) r13 q13).mono ?_; intro e w14 hN; obtain ⟨r14, rfl, hr14, x14⟩ := hN.isCan; clear hN; have v14 : Ext V1 w14 := v13.trans x14; have s0 := cell_ext x14 s0; have s1 := cell_ext x14 s1; have s2 := cell_ext x14 s2; have s3 := cell_ext x14 s3; have s4 := cell_ext x14 s4; obtain ⟨p0, p1, p2, p3, p4, p5⟩ := zero_at (B2.ext v14) HPC.out))
          go_upto_region 22 with fail
          have sz14 := v14.size
          have C1 := ((((B1.ext v14).other ⟨bg, i * 3, none⟩ (.bool r14.s) (by simp only; omega)).other ⟨bg, i * 3 + 1, none⟩ (.slice r14.a r14.k r14.c) (by simp only; omega)).other ⟨bg, i * 3 + 2, none⟩ (.slice r14.b r14.j r14.d) (by simp only; omega))
          have C2 : Arr (((w14.setCell ⟨bg, i * 3, none⟩ (.bool r14.s)).setCell ⟨bg, i * 3 + 1, none⟩ (.slice r14.a r14.k r14.c)).setCell ⟨bg, i * 3 + 2, none⟩ (.slice r14.b r14.j r14.d)) bg 55 (ratCells (prs ++ [r14]) ++ zeros3 m) := by
            have h5 := (((B2.ext v14).set (i * 3) (.bool r14.s)).set (i * 3 + 1) (.slice r14.a r14.k r14.c)).set (i * 3 + 2) (.slice r14.b r14.j r14.d)
            have h6 := fill3 (ratCells prs) m (.bool r14.s) (.slice r14.a r14.k r14.c) (.slice r14.b r14.j r14.d)
            rw [HPC.out] at h6
            rw [h6] at h5
            rw [ratCells_snoc]
            exact h5
          have C3 := ((((B3.ext v14).other ⟨bg, i * 3, none⟩ (.bool r14.s) (by simp only; omega)).other ⟨bg, i * 3 + 1, none⟩ (.slice r14.a r14.k r14.c) (by simp only; omega)).other ⟨bg, i * 3 + 2, none⟩ (.slice r14.b r14.j r14.d) (by simp only; omega))
          have C4 := ((((B4.ext v14).other ⟨bg, i * 3, none⟩ (.bool r14.s) (by simp only; omega)).other ⟨bg, i * 3 + 1, none⟩ (.slice r14.a r14.k r14.c) (by simp only; omega)).other ⟨bg, i * 3 + 2, none⟩ (.slice r14.b r14.j r14.d) (by simp only; omega))
          have C6 := fun k hk => ((((B6 k hk).ext v14).setCell ⟨bg, i * 3, none⟩ (.bool r14.s) (by simp only; omega)).setCell ⟨bg, i * 3 + 1, none⟩ (.slice r14.a r14.k r14.c) (by simp only; omega)).setCell ⟨bg, i * 3 + 2, none⟩ (.slice r14.b r14.j r14.d) (by simp only; omega)
          have C6' := (((hr14.mono (show BB ≤ w13.heap.size by have := v13.size; omega)).setCell ⟨bg, i * 3, none⟩ (.bool r14.s) (by simp only; omega)).setCell ⟨bg, i * 3 + 1, none⟩ (.slice r14.a r14.k r14.c) (by simp only; omega)).setCell ⟨bg, i * 3 + 2, none⟩ (.slice r14.b r14.j r14.d) (by simp only; omega)
          have C7 : Ext w (((w14.setCell ⟨bg, i * 3, none⟩ (.bool r14.s)).setCell ⟨bg, i * 3 + 1, none⟩ (.slice r14.a r14.k r14.c)).setCell ⟨bg, i * 3 + 2, none⟩ (.slice r14.b r14.j r14.d)) := ((((B7.trans v14).setCell (by simp only; omega) _).setCell (by simp only; omega) _).setCell (by simp only; omega) _)
          have C8 : BB ≤ (((w14.setCell ⟨bg, i * 3, none⟩ (.bool r14.s)).setCell ⟨bg, i * 3 + 1, none⟩ (.slice r14.a r14.k r14.c)).setCell ⟨bg, i * 3 + 2, none⟩ (.slice r14.b r14.j r14.d)).heap.size := by simp [World.setCell]; omega
          have C9 := cell_three (b := bg) (x := i * 3) (v0 := .bool r14.s) (v1 := .slice r14.a r14.k r14.c) (v2 := .slice r14.b r14.j r14.d) s4 (by simp only; omega)
          clear s0 s1 s2 s3 s4 p0 p1 p2 p3 p4 p5 B1 B2 B3 B4 B5 B6 hr14
          generalize ((w14.setCell ⟨bg, i * 3, none⟩ (.bool r14.s)).setCell ⟨bg, i * 3 + 1, none⟩ (.slice r14.a r14.k r14.c)).setCell ⟨bg, i * 3 + 2, none⟩ (.slice r14.b r14.j r14.d) = V2 at *
          have eO : ((List.range i).map (fun k : Nat => (k : Int))).length = i := by simp
          have cO : V2.cell? ⟨bo, i, none⟩ = some (.int .i64 0) := by
            rw [C4.cell, i64s_get _ _ (by simp)]
            congr 2
            rw [List.getElem_append_right (by simp)]; simp
          have fO := C4.frozen i
          have D4 : Arr (V2.setCell ⟨bo, i, none⟩ (.int .i64 (i : Nat))) bo 3 (i64s ((List.range (i + 1)).map (fun k : Nat => (k : Int)) ++ List.replicate m 0)) := by
            have h5 := C4.set i (.int .i64 (i : Nat))
            have h6 := i64s_next ((List.range i).map (fun k : Nat => (k : Int))) m (i : Int)
            rw [eO] at h6
            rw [h6] at h5
            rw [List.range_succ, List.map_append]
            exact h5
          have D1 := C1.other ⟨bo, i, none⟩ (.int .i64 (i : Nat)) (by simp only; omega)
          have D2 := C2.other ⟨bo, i, none⟩ (.int .i64 (i : Nat)) (by simp only; omega)
          have D3 := C3.other ⟨bo, i, none⟩ (.int .i64 (i : Nat)) (by simp only; omega)
          have D6 := fun k hk => (C6 k hk).setCell ⟨bo, i, none⟩ (.int .i64 (i : Nat)) (by simp only; omega)
          have D6' := C6'.setCell ⟨bo, i, none⟩ (.int .i64 (i : Nat)) (by simp only; omega)
          have D7 : Ext w (V2.setCell ⟨bo, i, none⟩ (.int .i64 (i : Nat))) := C7.setCell (by simp only; omega) _
          have D8 : BB ≤ (V2.setCell ⟨bo, i, none⟩ (.int .i64 (i : Nat))).heap.size := by simp [World.setCell]; exact C8
          have D9 : (V2.setCell ⟨bo, i, none⟩ (.int .i64 (i : Nat))).cell? ⟨bw, i, none⟩ = some (.int .i64 z) := by
            rw [World.cell?_setCell_other _ _ _ _ (by intro e; simp only [Addr.mk.injEq] at e; omega)]; exact C9
          have HD : Hid (ApAt w qs rs.length bw bg pb bo BB F (i + 1) (V2.setCell ⟨bo, i, none⟩ (.int .i64 (i : Nat)))) := by
            refine ⟨prs ++ [r14], by simp [hpl], by omega, by rw [hm']; exact D1, by rw [hm']; exact D2, D3, by rw [hm']; exact D4, ?_, D7, D8⟩
            intro k hk
            by_cases hki : k < prs.length
            · rw [List.getElem_append_left hki]; exact D6 k hki
            · have hk' : k = i := by simp at hk; omega
              subst hk'
              rw [List.getElem_append_right (by omega)]
              simp only [hpl, Nat.sub_self, List.getElem_cons_zero]
              exact D6'
          go_upto_region 23 with fail
          generalize V2.setCell ⟨bo, i, none⟩ (.int .i64 (i : Nat)) = V3 at *
          clear C1 C2 C3 C4 C6 C6' D1 D2 D3 D4 D6 D6'
          go_wp2_with fail
          refine ⟨⟨i + 1, HD.out, congrArg (Value.int .i64) ?_, by go_num⟩, by simp [intOf] <;> omega⟩
          rw [HIS.out]
          have : (i : Int) * 281474976710656 ≤ 128 * 281474976710656 := Int.mul_le_mul_of_nonneg_right (by omega) (by decide)
          first | omega | (unfold wrap64; omega)
        · obtain rfl : i = rs.length := by omega
          rw [Nat.sub_self] at aW aG aO
          rw [List.take_of_length_le (by rw [List.length_map, h.len]; exact Nat.le_refl _)] at aW ⊢
          have hflen : (fracs qs).length = rs.length := by unfold fracs; rw [List.length_map, h.len]
          have hRt : Rats wr (some ⟨bg, 0, none⟩) rs.length prs (fracs qs) (L + 10) := by
            refine ⟨by rw [hflen, hpl], by omega, by omega, by omega, fun k hk => ⟨bg, 0, rfl, ?_, ?_, ?_⟩, fun k hk => ?_⟩
            · rw [Nat.zero_add, aG.cell, List.getElem?_append_left (by rw [ratCells_length]; omega)]; exact ratCells_get prs k 0 hk (by decide)
            · rw [Nat.zero_add, aG.cell, List.getElem?_append_left (by rw [ratCells_length]; omega)]; exact ratCells_get prs k 1 hk (by decide)
            · rw [Nat.zero_add, aG.cell, List.getElem?_append_left (by rw [ratCells_length]; omega)]; exact ratCells_get prs k 2 hk (by decide)
            · have h5 := (hcan k hk).isRat
              have hkq : k < qs.length := by rw [h.len]; omega
              have e5 : qs[k]?.getD 0 = qs[k]'hkq := by rw [List.getElem?_eq_getElem hkq]; rfl
              rw [e5] at h5
              have e6 : (fracs qs)[k]'(by omega) = qs[k]'hkq - (((qs[k]'hkq).floor : Int) : Rat) := by unfold fracs; simp
              rw [e6]
              refine h5.mono ?_
              have l1 := rsz_sub (qs[k]'hkq) (((qs[k]'hkq).floor : Int) : Rat)
              have l2 := rsz_int (qs[k]'hkq).floor
              obtain ⟨l3, l4⟩ := apOk_floor (hall k (by omega))
              have l5 := len_natAbs_i64 (z := (qs[k]'hkq).floor) (by omega) (by omega)
              have l6 := (h.num k (by omega)).rsz
              omega
          have hsort := ap_sort0 wr pb bg bo rs.length (L + 10) rs.length prs (fracs qs) (by have := aP.cell 0; simpa using this) hRt hpl (by omega) H0N.out (by omega) (by omega) (by omega)
            (fun k hk => ⟨fun x e => by have := (hcan k hk).fa x e; omega, fun x e => by have := (hcan k hk).fb x e; omega⟩)
            (fun k hk => ⟨by
              rw [aO.cell, i64s_get _ _ (by simp; exact hk)]
              simp, aO.frozen k⟩)
          have HS := Lib.hid hsort
          clear hsort hRt
          obtain ⟨M, hM⟩ : ∃ M : Nat, F - isum (qs.map Rat.floor) = (M : Int) := ⟨(F - isum (qs.map Rat.floor)).toNat, by have := HF.out; omega⟩
          have hMn : M ≤ rs.length := by have := HF.out; omega
          rw [hM]
          have HMM : Hid (M = ((qsum qs).floor - isum (qs.map Rat.floor)).toNat) := (show _ = _ by have := HF.out; omega)
          clear hM
          go_wp2_with fail
          refine HS.out.mono ?_
          rintro e w15 ⟨rfl, hso⟩
          have sz15 := hso.size
          have A1 : Arr w15 bw 3 (i64s (apInc (fracs qs) rs.length (qs.map Rat.floor) 0)) := by
            unfold Arr
            rw [hso.agree bw (by omega) (by omega)]
            have h5 := aW
            rw [List.replicate_zero, List.append_nil] at h5
            exact h5
          have X15 : Ext w w15 := ⟨⟨hso.os.trans hxw.below.os, hso.tape.trans hxw.below.tape, hso.output.trans hxw.below.output, by have := hxw.size; omega, fun k hk => (hso.agree k (by have := hxw.size; omega) (by omega)).trans (hxw.below.block k hk)⟩, Nat.le_trans hxw.drawn hso.drawn⟩
          have cO := hso.cell
          have CO := Lib.hid cO
          clear cO aW aG aP aO hcan HS hso
          go_wp2_with fail
          go_loopw [105] (fun ii wr => ∃ t : Nat, t ≤ M ∧ Hid (Arr wr bw 3 (i64s (apInc (fracs qs) rs.length (qs.map Rat.floor) t))) ∧ Hid (∀ j, j < rs.length → wr.cell? ⟨bo, j, none⟩ = some (.int .i64 (apAt (fracs qs) rs.length j : Nat))) ∧ Ext w wr ∧ ii = .int .i64 t) (fun ii _ => M - (intOf ii).toNat)
          case atStart => exact ⟨0, Nat.zero_le _, A1, CO, X15, rfl⟩
          case round =>
            obtain ⟨t, ht, hA, hC, hX, rfl⟩ := hrel
            by_cases htl : t < M
            · have c1 := hC.out t (by omega)
              have hp := apAt_lt (fracs qs) rs.length t (by omega)
              have hl := apInc_length (fracs qs) rs.length (qs.map Rat.floor) t
              rw [List.length_map, h.len] at hl
              have c2 : wr.cell? ⟨bw, apAt (fracs qs) rs.length t, none⟩ = some (.int .i64 ((apInc (fracs qs) rs.length (qs.map Rat.floor) t)[apAt (fracs qs) rs.length t]?.getD 0)) := by
                rw [hA.out.cell, i64s_get _ _ (by omega), List.getElem?_eq_getElem (by omega)]; rfl
              have c3 := hA.out.frozen (apAt (fracs qs) rs.length t)
              have hbd := apInc_bound (fracs qs) rs.length (qs.map Rat.floor) t (apAt (fracs qs) rs.length t) (by
                intro x hx
                obtain ⟨q, hq, rfl⟩ := List.mem_map.1 hx
                obtain ⟨k, hk, rfl⟩ := List.getElem_of_mem hq
                exact apOk_floor (hall k (by rw [← h.len]; exact hk)))
              have D1 : Arr (wr.setCell ⟨bw, apAt (fracs qs) rs.length t, none⟩ (.int .i64 ((apInc (fracs qs) rs.length (qs.map Rat.floor) t)[apAt (fracs qs) rs.length t]?.getD 0 + 1))) bw 3 (i64s (apInc (fracs qs) rs.length (qs.map Rat.floor) (t + 1))) := by
                have h5 := hA.out.set (apAt (fracs qs) rs.length t) (.int .i64 ((apInc (fracs qs) rs.length (qs.map Rat.floor) t)[apAt (fracs qs) rs.length t]?.getD 0 + 1))
                unfold i64s at h5
                rw [← List.map_set] at h5
                exact h5
              have D2 : ∀ j, j < rs.length → (wr.setCell ⟨bw, apAt (fracs qs) rs.length t, none⟩ (.int .i64 ((apInc (fracs qs) rs.length (qs.map Rat.floor) t)[apAt (fracs qs) rs.length t]?.getD 0 + 1))).cell? ⟨bo, j, none⟩ = some (.int .i64 (apAt (fracs qs) rs.length j : Nat)) := by
                intro j hj
                rw [World.cell?_setCell_other _ _ _ _ (by intro e; simp only [Addr.mk.injEq] at e; omega)]
                exact hC.out j hj
              have HD1 := Lib.hid D1; have HD2 := Lib.hid D2
              clear D1 D2
              generalize (apInc (fracs qs) rs.length (qs.map Rat.floor) t)[apAt (fracs qs) rs.length t]?.getD 0 = v at *
              generalize apAt (fracs qs) rs.length t = p at *
              go_wp2_with fail
              go_roundw
              case rel => exact ⟨t + 1, by omega, HD1, HD2, hX.setCell (by simp only; omega) _, by go_num⟩
              case measure => simp [intOf] <;> omega
            · obtain rfl : t = M := by omega
              have hl := apInc_length (fracs qs) rs.length (qs.map Rat.floor) t
              rw [List.length_map, h.len] at hl
              have HL := Lib.hid hl; clear hl
              go_wp2_with fail
              go_ret2
              have hfin := HOUT.out
              rw [← HMM.out] at hfin
              rw [hfin]
              exact ⟨bw, by rw [HL.out]; rfl, o1, hA.out, hX⟩


/-- No number. -/
theorem ap_none (w : World) (a : Option Addr) (c : Nat) (hc : c ≤ 9223372036854775807) : Calls Tryz.prog 33 #[.slice a 0 c] w (ApGood [] w) := by
  have h : Rats w a c [] [] 0 := ⟨rfl, Nat.zero_le _, hc, Nat.zero_le _, fun i hi => absurd hi (Nat.not_lt_zero _), fun i hi => absurd hi (Nat.not_lt_zero _)⟩
  have z : ((0 : Int) : Rat) = 0 := rfl
  have hq : qsum [] = ((0 : Int) : Rat) := rfl
  have hf : (qsum []).floor = 0 := by rw [hq, Rat.floor_intCast]
  have h5 := ap_zero w a c 0 [] [] h (by simp) (by decide) (fun i hi => absurd hi (Nat.not_lt_zero _)) (by rw [hf]; decide) (by rw [hf]; decide) (by rw [hf]; rfl) rfl (by rw [hf]; decide) (by rw [hf]; decide) (by rw [hq, rsz_int]; decide)
  exact h5

end Go.Proofs.YtgihpfkjpfanmaaGreat
