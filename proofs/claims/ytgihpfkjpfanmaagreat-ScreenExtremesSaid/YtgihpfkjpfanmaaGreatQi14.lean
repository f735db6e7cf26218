/- Texts of the proof: Sc3, Sc4, MClone, SRev, Sc5, Sc6. -/
import Derived.Lib.MinMax
import Derived.Deep.DeepCutAuto
import Derived.Deep.CutBlock
import Derived.IntWalk
import Derived.Test.YtgihpfkjpfanmaaGreatRows
import Derived.Laws.AppendOwnNone
import Derived.Deep.LoopGhost
import Derived.Deep.Slices
import Derived.Deep.RegionHeld
import Derived.KernelRfl
import Derived.WalkKit
import Derived.WalkSpells
import Derived.Sort.Grow
import Derived.Lib.Hide
import Derived.Laws.CopyOwn
import Derived.Laws.BitsAllLaws
import Derived.Deep.QuietTactic
import Derived.BigQuiet
import Derived.WalkLawsBesides
import Derived.Deep.RegionWith
import Derived.Deep.RegionHeld3
import Derived.Test.YtgihpfkjpfanmaaGreatProg
import Derived.Shelf.SlSortCmp.NoneTotal
import Derived.Test.YtgihpfkjpfanmaaGreatChecked
import Derived.Lib.Strings
import Derived.Lib.Slices
import Derived.Lib.Small
import Derived.Lib.Walk
import Derived.Lib.BitFns
import Derived.ProofKit
import Derived.OpenShut
import Derived.ShutString
import Derived.ChangeOld
import Derived.Below
import Derived.Maps.RangeWalk
import Derived.Maps.OwnSet
import Derived.Maps.OwnOps
import Derived.Maps.Views
import Derived.Shelf.SlMaps.Clone
import Derived.Shelf.SlicesE.Reverse
import Derived.Test.YtgihpfkjpfanmaaGreatQi1
import Derived.Test.YtgihpfkjpfanmaaGreatQi2
import Derived.Test.YtgihpfkjpfanmaaGreatQi3
import Derived.Test.YtgihpfkjpfanmaaGreatQi4
import Derived.Test.YtgihpfkjpfanmaaGreatQi5
import Derived.Test.YtgihpfkjpfanmaaGreatQi6
import Derived.Test.YtgihpfkjpfanmaaGreatQi7
import Derived.Test.YtgihpfkjpfanmaaGreatQi8
import Derived.Test.YtgihpfkjpfanmaaGreatQi9
import Derived.Test.YtgihpfkjpfanmaaGreatQi10
import Derived.Test.YtgihpfkjpfanmaaGreatQi11
import Derived.Test.YtgihpfkjpfanmaaGreatQi12
import Derived.Test.YtgihpfkjpfanmaaGreatQi13
namespace Go.Proofs.YtgihpfkjpfanmaaGreat
open Go.RowKit

/-- What the cells hold stays. -/
def Keeps (w w' : World) : Prop := ∀ p v, w.cell? p = some v → w'.cell? p = some v
theorem Keeps.refl (w : World) : Keeps w w := fun _ _ h => h
theorem Keeps.trans {a b c : World} (h : Keeps a b) (k : Keeps b c) : Keeps a c := fun p v e => k p v (h p v e)
theorem Ext.keeps {w w' : World} (h : Ext w w') : Keeps w w' := fun _ _ e => cell_ext h e
theorem IMap.no_cell {w : World} {b n : Nat} {K : Int → Prop} {f : Int → Int} (h : IMap w b n K f) {p : Addr} {v : Value} (e : w.cell? p = some v) : p.block ≠ b := by
  obtain ⟨D, ⟨es, clock, hb, _⟩, _⟩ := h
  intro hp
  unfold World.cell? at e
  rw [hp, hb] at e
  simp at e
theorem Limbs.keeps {w w' : World} {a : Option Addr} {c : Nat} {l : List Nat} (h : Limbs w a c l) (k : Keeps w w') : Limbs w' a c l :=
  ⟨h.le, h.cap, h.short, h.nul, h.small, fun i hi => by obtain ⟨b, o, ha, hc⟩ := h.cell i hi; exact ⟨b, o, ha, k _ _ hc⟩⟩
theorem Raw.keeps {w w' : World} {a : Option Addr} {k c n : Nat} (h : Raw w a k c n) (e : Keeps w w') : Raw w' a k c n := by
  obtain ⟨l, h1, h2, h3⟩ := h; exact ⟨l, h1, h2, h3.keeps e⟩
theorem IsRat.keeps {w w' : World} {r : RVal} {q : Rat} {L : Nat} (h : IsRat w r q L) (e : Keeps w w') : IsRat w' r q L := by
  obtain ⟨n, m, h1, h2, h3⟩ := h; exact ⟨n, m, h1.keeps e, h2.keeps e, h3⟩
theorem IsCan.keeps {w w' : World} {r : RVal} {q : Rat} {B : Nat} (h : IsCan w r q B) (e : Keeps w w') : IsCan w' r q B := ⟨h.s, h.k, h.j, h.num.keeps e, h.den.keeps e, h.fa, h.fb⟩
theorem Rats.keeps {w w' : World} {a : Option Addr} {c : Nat} {rs : List RVal} {qs : List Rat} {L : Nat} (h : Rats w a c rs qs L) (e : Keeps w w') : Rats w' a c rs qs L :=
  ⟨h.len, h.le, h.cap, h.short, fun i hi => by obtain ⟨b, o, ha, c0, c1, c2⟩ := h.cell i hi; exact ⟨b, o, ha, e _ _ c0, e _ _ c1, e _ _ c2⟩, fun i hi => (h.num i hi).keeps e⟩
theorem IntIn.keeps {w w' : World} {a : Option Addr} {c : Nat} {xs : List Int} (h : IntIn w a c xs) (e : Keeps w w') : IntIn w' a c xs :=
  ⟨h.le, h.cap, fun i hi => by obtain ⟨b, o, ha, hc⟩ := h.cell i hi; exact ⟨b, o, ha, e _ _ hc⟩, h.rng⟩

/-- w' is w with draws and new blocks, but for the block b. -/
structure ExtBut (b : Nat) (w w' : World) : Prop where
  os : w'.os = w.os
  tape : w'.tape = w.tape
  output : w'.output = w.output
  drawn : w.drawn ≤ w'.drawn
  size : w.heap.size ≤ w'.heap.size
  block : ∀ k, k < w.heap.size → k ≠ b → w'.heap[k]? = w.heap[k]?
theorem ExtBut.refl (b : Nat) (w : World) : ExtBut b w w := ⟨rfl, rfl, rfl, Nat.le_refl _, Nat.le_refl _, fun _ _ _ => rfl⟩
theorem Ext.but {w w' : World} (h : Ext w w') (b : Nat) : ExtBut b w w' := ⟨h.below.os, h.below.tape, h.below.output, h.drawn, h.size, fun k hk _ => h.below.block k hk⟩
theorem Turn.but {b : Nat} {w w' : World} (t : Turn b w w') : ExtBut b w w' := ⟨t.os, t.tape, t.output, t.drawn, by rw [t.size]; exact Nat.le_refl _, fun k _ hk => t.block k hk⟩
theorem ExtBut.trans {b : Nat} {w w1 w2 : World} (h : ExtBut b w w1) (k : ExtBut b w1 w2) : ExtBut b w w2 :=
  ⟨k.os.trans h.os, k.tape.trans h.tape, k.output.trans h.output, Nat.le_trans h.drawn k.drawn, Nat.le_trans h.size k.size, fun x hx hb => by rw [k.block x (Nat.lt_of_lt_of_le hx h.size) hb]; exact h.block x hx hb⟩
theorem ExtBut.ext {b : Nat} {w0 w w' : World} (k : ExtBut b w w') (h : Ext w0 w) (hb : w0.heap.size ≤ b) : Ext w0 w' :=
  ⟨⟨k.os.trans h.below.os, k.tape.trans h.below.tape, k.output.trans h.below.output, Nat.le_trans h.size k.size, fun x hx => by rw [k.block x (Nat.lt_of_lt_of_le hx h.size) (by omega)]; exact h.below.block x hx⟩, Nat.le_trans h.drawn k.drawn⟩
theorem ExtBut.setCell {b : Nat} {w w' : World} (h : ExtBut b w w') {p : Addr} (hp : w.heap.size ≤ p.block) (v : Value) : ExtBut b w (w'.setCell p v) :=
  ⟨h.os, h.tape, h.output, h.drawn, by simpa [World.setCell] using h.size, fun k hk hb => by rw [Below.heap_setCell _ _ _ _ (by omega)]; exact h.block k hk hb⟩
theorem ExtBut.keeps {b n : Nat} {w w' : World} {K : Int → Prop} {f : Int → Int} (h : ExtBut b w w') (hm : IMap w b n K f) : Keeps w w' := by
  intro p v e
  have h1 := hm.no_cell e
  have h2 := block_lt e
  unfold World.cell? at *
  rw [h.block _ h2 h1]; exact e

/-- The number at a place. -/
def at0 (l : List Int) (i : Nat) : Int := l[i]?.getD 0
def atQ (l : List Rat) (i : Nat) : Rat := l[i]?.getD 0
theorem at0_eq {l : List Int} {i : Nat} (h : i < l.length) : at0 l i = l[i] := by unfold at0; rw [List.getElem?_eq_getElem h]; rfl
theorem atQ_eq {l : List Rat} {i : Nat} (h : i < l.length) : atQ l i = l[i] := by unfold atQ; rw [List.getElem?_eq_getElem h]; rfl

/-- The state at the head of filled's loop. -/
def FillAt (w : World) (b B1 cn L : Nat) (t : Nat → Rat) (lo hi isl : Nat → Int) (os : List Nat) (tot : Rat) (j : Nat) (wr : World) : Prop :=
  ∃ (r : RVal) (S : Rat) (K : Int → Prop) (f : Int → Int), Arr wr B1 55 r.cells ∧ IsCan wr r S (w.heap.size + 1) ∧ rsz S ≤ 1 + j * (L + 8) ∧ IMap wr b (cn + j) K f ∧ (∀ k, 0 ≤ f k ∧ f k ≤ 1099511627776) ∧ S + fillSum t lo hi isl (os.drop j) f = tot ∧ ExtBut b w wr ∧ Arr wr w.heap.size 55 [.bool false, .slice none 0 0, .slice none 0 0]

theorem len_i64 {z : Int} (h1 : -9223372036854775808 ≤ z) (h2 : z ≤ 9223372036854775807) : rsz (z : Rat) ≤ 2 := by rw [rsz_int]; have := len_natAbs_i64 h1 h2; omega

set_option maxHeartbeats 4000000 in
set_option maxRecDepth 100000 in
theorem sc_filled (w : World) (ta la ha ia oa : Option Addr) (tc lc hc ic oc L n b cn : Nat) (rs : List RVal) (qs : List Rat) (lo hi isl : List Int) (os : List Nat) (K0 : Int → Prop) (f0 : Int → Int)
    (hR : Rats w ta tc rs qs L) (hlo : IntIn w la lc lo) (hhi : IntIn w ha hc hi) (hil : IntIn w ia ic isl) (hor : IntIn w oa oc (os.map fun (i : Nat) => (i : Int))) (hM : IMap w b cn K0 f0)
    (n1 : rs.length = n) (n2 : lo.length = n) (n3 : hi.length = n) (n4 : isl.length = n) (hos : ∀ i ∈ os, i < n) (hn : os.length ≤ 40) (hcn : cn ≤ 1000) (hL : L ≤ 1000)
    (hb1 : ∀ i, i < n → -1073741824 ≤ at0 lo i ∧ at0 lo i ≤ at0 hi i ∧ at0 hi i ≤ 1073741824) (hf : ∀ k, 0 ≤ f0 k ∧ f0 k ≤ 1099511627776) :
    Calls Tryz.prog 70 #[.slice ta n tc, .slice la n lc, .slice ha n hc, .slice ia n ic, .slice oa os.length oc, .map (some b)] w fun e w' => ∃ r : RVal, e = .returned (.agg #[.bool r.s, .slice r.a r.k r.c, .slice r.b r.j r.d]) ∧ IsCan w' r (fillSum (atQ qs) (at0 lo) (at0 hi) (at0 isl) os f0) w.heap.size ∧ ExtBut b w w' := by
  have hMl := hM.lt
  obtain ⟨tot, htot⟩ : ∃ tot, tot = fillSum (atQ qs) (at0 lo) (at0 hi) (at0 isl) os f0 := ⟨_, rfl⟩
  rw [← htot]
  have hRle := hR.le; have hRcap := hR.cap; have hl1 := hlo.le; have hl2 := hlo.cap; have hh1 := hhi.le; have hh2 := hhi.cap; have hi1 := hil.le; have hi2 := hil.cap; have ho1 := hor.le; have ho2 := hor.cap
  rw [List.length_map] at ho1
  have HB := Lib.hid hb1; have HF := Lib.hid hf; have HOS := Lib.hid hos; have HTOT := Lib.hid htot; have HM := Lib.hid hM
  have HR := Lib.hid hR; have HLO := Lib.hid hlo; have HHI := Lib.hid hhi; have HIL := Lib.hid hil; have HOR := Lib.hid hor
  clear hb1 hf hos htot hM hR hlo hhi hil hor
  go_enter Tryz.func70, Tryz.ntmps70
  go_wp2_with fail
  obtain ⟨W, hW, x0, Z0, A0⟩ := boxes1 w 55 [.bool false, .slice none 0 0, .slice none 0 0]
  rw [← hW]
  clear hW
  refine (rat_FromInt _ _ (by decide) (by decide)).mono ?_
  intro e w1 hN
  obtain ⟨r1, rfl, hr1, hx1⟩ := hN.isCan
  have z0 := (A0.ext hx1).lt
  go_wp2_with fail
  obtain ⟨w2, hw2⟩ : ∃ w2, w2 = w1.alloc (Obj.cells #[.bool r1.s, .slice r1.a r1.k r1.c, .slice r1.b r1.j r1.d] 55) := ⟨_, rfl⟩
  rw [← hw2]
  have E2 : Ext w w2 := by rw [hw2]; exact (x0.trans hx1).alloc _
  have P2 : Arr w2 w1.heap.size 55 r1.cells := by rw [hw2]; exact Arr.alloc _ _ _
  have R2 : IsCan w2 r1 0 (w.heap.size + 1) := by rw [hw2, ← Z0.out]; exact hr1.ext ((Ext.refl _).alloc _)
  have C2 : Arr w2 w.heap.size 55 [.bool false, .slice none 0 0, .slice none 0 0] := by rw [hw2]; exact (A0.ext hx1).ext ((Ext.refl _).alloc _)
  have q0 : rsz 0 ≤ 1 + 0 * (L + 8) := by rw [Nat.zero_mul]; show rsz (((0 : Int) : Rat)) ≤ 1; rw [rsz_int]; decide
  have SI : Hid (FillAt w b w1.heap.size cn L (atQ qs) (at0 lo) (at0 hi) (at0 isl) os tot 0 w2) := ⟨r1, 0, K0, f0, P2, R2, q0, HM.out.ext E2, HF.out, by rw [List.drop_zero, HTOT.out, Rat.zero_add], E2.but b, C2⟩
  clear hw2 hr1 hN P2 R2 C2 q0 A0 E2 hx1 x0
  go_loopw [20] (fun ii wr => ∃ j : Nat, j ≤ os.length ∧ FillAt w b w1.heap.size cn L (atQ qs) (at0 lo) (at0 hi) (at0 isl) os tot j wr ∧ ii = .int .i64 j) (fun ii _ => os.length - (intOf ii).toNat)
  case atStart => exact ⟨0, Nat.zero_le _, SI.out, rfl⟩
  case round =>
    obtain ⟨j, hj, ⟨r, S, K, f, hP, hS, hSz, hM, hf, hT, hE, hC⟩, rfl⟩ := hrel
    by_cases hlt : j < os.length
    · have hin : os[j] < n := HOS.out _ (List.getElem_mem hlt)
      have hK := hE.keeps HM.out
      obtain ⟨bo, oo, rfl, cO⟩ := (HOR.out.keeps hK).cell j (by rw [List.length_map]; exact hlt)
      rw [List.getElem_map] at cO
      obtain ⟨bl, ol, rfl, cL⟩ := (HLO.out.keeps hK).cell os[j] (by omega)
      obtain ⟨bh, oh, rfl, cH⟩ := (HHI.out.keeps hK).cell os[j] (by omega)
      obtain ⟨bi, oi, rfl, cI⟩ := (HIL.out.keeps hK).cell os[j] (by omega)
      obtain ⟨bt, ot, rfl, c0, c1, c2⟩ := (HR.out.keeps hK).cell os[j] (by omega)
      have hkk := HIL.out.rng os[j] (by omega)
      obtain ⟨hB1, hB2, hB3⟩ := HB.out os[j] hin
      rw [at0_eq (by omega), at0_eq (by omega)] at hB2
      rw [at0_eq (by omega)] at hB1 hB3
      have hq := (HR.out.keeps hK).num os[j] (by omega)
      obtain ⟨nq, mq, g1, g2, gq, gl1, gl2⟩ := hq
      have hqz := ((HR.out.keeps hK).num os[j] (by omega)).rsz
      rw [List.drop_eq_getElem_cons hlt] at hT
      have hT' := hT
      unfold fillSum at hT'
      have eA : at0 lo os[j] = lo[os[j]] := at0_eq (by omega)
      have eB : at0 hi os[j] = hi[os[j]] := at0_eq (by omega)
      have eC : at0 isl os[j] = isl[os[j]] := at0_eq (by omega)
      have eQ : atQ qs os[j] = qs[os[j]]'(by rw [HR.out.len]; omega) := atQ_eq (by rw [HR.out.len]; omega)
      unfold fillM moreOf at hT'
      rw [eA, eB, eC, eQ] at hT'
      generalize qs[os[j]]'(by rw [HR.out.len]; omega) = q at *
      generalize lo[os[j]] = l at *
      generalize hi[os[j]] = h at *
      generalize isl[os[j]] = k at *
      generalize rs[os[j]] = y at *
      have hfk := hf k
      obtain ⟨x, hx⟩ : ∃ x, x = min (f k) (h - l) := ⟨_, rfl⟩
      have hx0 : 0 ≤ x ∧ x ≤ f k ∧ x ≤ h - l := by omega
      rw [← hx] at hT'
      have hk64 : isI64 k := hkk
      have hw1 : IntKind.i64.wrap (h - l) = h - l := by rw [IntKind.wrap_i64]; omega
      have hw2 : IntKind.i64.wrap (l + x) = l + x := by rw [IntKind.wrap_i64]; omega
      have HT := Lib.hid hT'
      have HMM := Lib.hid hM
      have HX := Lib.hid hx
      have HFA := Lib.hid hf
      have HE := Lib.hid hE
      have HP := Lib.hid hP
      have HS := Lib.hid hS
      have HC := Lib.hid hC
      have HSz := Lib.hid hSz
      have hKK : ∀ w', ExtBut b wr w' → w'.cell? ⟨bl, ol + os[j], none⟩ = some (.int .i64 l) ∧ w'.cell? ⟨bh, oh + os[j], none⟩ = some (.int .i64 h) ∧ w'.cell? ⟨bi, oi + os[j], none⟩ = some (.int .i64 k) ∧ w'.cell? ⟨bt, ot + os[j] * 3, none⟩ = some (.bool y.s) ∧ w'.cell? ⟨bt, ot + os[j] * 3 + 1, none⟩ = some (.slice y.a y.k y.c) ∧ w'.cell? ⟨bt, ot + os[j] * 3 + 2, none⟩ = some (.slice y.b y.j y.d) := fun V hV => ⟨hV.keeps hM _ _ cL, hV.keeps hM _ _ cH, hV.keeps hM _ _ cI, hV.keeps hM _ _ c0, hV.keeps hM _ _ c1, hV.keeps hM _ _ c2⟩
      have HKK := Lib.hid hKK
      have hMu : ∀ V, ExtBut b wr V → ∀ (r' : RVal) (B : Nat), IsCan V r' (((l + x : Int)) : Rat) B → Calls Tryz.prog 96 #[.agg #[.bool y.s, .slice y.a y.k y.c, .slice y.b y.j y.d], .agg #[.bool r'.s, .slice r'.a r'.k r'.c, .slice r'.b r'.j r'.d]] V (NewRat (q * (((l + x : Int)) : Rat)) V) := by
        intro V hV r' B hr'
        have hz := len_i64 (z := l + x) (by omega) (by omega)
        have a1 := rsz_num (((l + x : Int)) : Rat); have a2 := rsz_den (((l + x : Int)) : Rat)
        have h5 := rat_Mul V y.s _ _ _ _ _ _ _ _ (g1.keeps (hV.keeps hM)) (g2.keeps (hV.keeps hM)) r'.s _ _ _ _ _ _ _ _ hr'.num hr'.den (by omega) (by omega) (by omega) (by omega)
        rw [← gq, hr'.s, sgn_num, Rat.mkRat_self] at h5
        rw [hr'.s]
        exact h5
      have hmz : rsz (q * (((l + x : Int)) : Rat)) ≤ L + 4 := by
        have := rsz_mul q (((l + x : Int)) : Rat); have := len_i64 (z := l + x) (by omega) (by omega); omega
      have hjL : j * (L + 8) ≤ 40 * 1008 := Nat.mul_le_mul (by omega) (by omega)
      have hAd : ∀ V, ExtBut b wr V → ∀ (r' : RVal) (B : Nat), IsCan V r' (q * (((l + x : Int)) : Rat)) B → Calls Tryz.prog 136 #[.agg #[.bool r.s, .slice r.a r.k r.c, .slice r.b r.j r.d], .agg #[.bool r'.s, .slice r'.a r'.k r'.c, .slice r'.b r'.j r'.d]] V (NewRat (S + q * (((l + x : Int)) : Rat)) V) := by
        intro V hV r' B hr'
        have hr := hS.keeps (hV.keeps hM)
        have a1 := rsz_num (q * (((l + x : Int)) : Rat)); have a2 := rsz_den (q * (((l + x : Int)) : Rat)); have a3 := rsz_num S; have a4 := rsz_den S
        have h5 := rat_Add V r.s _ _ _ _ _ _ _ _ hr.num hr.den r'.s _ _ _ _ _ _ _ _ hr'.num hr'.den (by omega) (by omega) (by omega) (by omega)
        rw [hr.s, sgn_num, Rat.mkRat_self, hr'.s, sgn_num, Rat.mkRat_self] at h5
        rw [hr'.s, hr.s]
        exact h5
      have HMu := Lib.hid hMu; have HAd := Lib.hid hAd; have HMZ := Lib.hid hmz
      have bi0 : (0 : Int) ≤ (os[j] : Int) := by omega
      have bi1 : (os[j] : Int) < (n : Int) := by omega
      have bj1 : (j : Int) < (os.length : Int) := by omega
      clear hKK hMu hAd hT hT' hM hE hP hS hC hf hK gq g1 g2 hx hmz hjL hSz eA eB eC eQ
      clear cL cH cI c0 c1 c2
      generalize hij : os[j] = i at *
      go_wp2_with fail
      have v0 : ExtBut b wr wr.drew := (Ext.refl _).drew.but b
      have hx := HX.out.symm
      refine wp_region_Z (S := fun w' => w'.cell? ⟨bl, ol + i, none⟩ = some (.int .i64 l) ∧ w'.cell? ⟨bh, oh + i, none⟩ = some (.int .i64 h) ∧ w'.cell? ⟨bi, oi + i, none⟩ = some (.int .i64 k) ∧ IMap w' b (cn + j) K f) (fun i => false) (by kernel_rfl) (⟨(HKK.out _ v0).1, (HKK.out _ v0).2.1, (HKK.out _ v0).2.2.1, HMM.out.same rfl⟩) (fun hHeld => ?_)
      refine wpAnyZ_take (i := 0) (v := .map (some b)) rfl (by kernel_rfl) (by kernel_rfl) (by kernel_rfl) (by kernel_rfl) (fun _ _ _ h => h) (Or.inl ⟨by rfl, fun w hSw => by (obtain ⟨e0, e1, e2, e3⟩ := hSw; go_simp)⟩) hHeld ?_
      try simp only [List.getElem_toArray, List.getElem_cons_zero, Act.put, List.setIfInBounds_toArray, List.set_cons_zero, List.set_cons_succ]
      refine wpAnyZ_take (i := 1) (v := .slice (some ⟨bi, oi, none⟩) n ic) rfl (by kernel_rfl) (by kernel_rfl) (by kernel_rfl) (by kernel_rfl) (fun _ _ _ h => h) (Or.inl ⟨by rfl, fun w hSw => by (obtain ⟨e0, e1, e2, e3⟩ := hSw; go_simp)⟩) hHeld ?_
      try simp only [List.getElem_toArray, List.getElem_cons_succ, List.getElem_cons_zero, Act.put, List.setIfInBounds_toArray, List.set_cons_zero, List.set_cons_succ]
      refine wpAnyZ_take (i := 2) (v := .int .i64 (i : Int)) rfl (by kernel_rfl) (by kernel_rfl) (by kernel_rfl) (by kernel_rfl) (fun _ _ _ h => h) (Or.inl ⟨by rfl, fun w hSw => by (obtain ⟨e0, e1, e2, e3⟩ := hSw; go_simp)⟩) hHeld ?_
      try simp only [List.getElem_toArray, List.getElem_cons_succ, List.getElem_cons_zero, Act.put, List.setIfInBounds_toArray, List.set_cons_zero, List.set_cons_succ]
      refine wpAnyZ_take (i := 3) (v := .pointer (some ⟨bi, oi + i, none⟩)) rfl (by kernel_rfl) (by kernel_rfl) (by kernel_rfl) (by kernel_rfl) (fun _ _ _ h => h) (Or.inl ⟨by rfl, fun w hSw => by (obtain ⟨e0, e1, e2, e3⟩ := hSw; go_simp)⟩) hHeld ?_
      try simp only [List.getElem_toArray, List.getElem_cons_succ, List.getElem_cons_zero, Act.put, List.setIfInBounds_toArray, List.set_cons_zero, List.set_cons_succ]
      refine wpAnyZ_take (i := 4) (v := .int .i64 k) rfl (by kernel_rfl) (by kernel_rfl) (by kernel_rfl) (by kernel_rfl) (fun _ _ _ h => h) (Or.inl ⟨by rfl, fun w hSw => by (obtain ⟨e0, e1, e2, e3⟩ := hSw; go_simp)⟩) hHeld ?_
      try simp only [List.getElem_toArray, List.getElem_cons_succ, List.getElem_cons_zero, Act.put, List.setIfInBounds_toArray, List.set_cons_zero, List.set_cons_succ]
      refine wpAnyZ_take (i := 6) (v := .slice (some ⟨bh, oh, none⟩) n hc) rfl (by kernel_rfl) (by kernel_rfl) (by kernel_rfl) (by kernel_rfl) (fun _ _ _ h => h) (Or.inl ⟨by rfl, fun w hSw => by (obtain ⟨e0, e1, e2, e3⟩ := hSw; go_simp)⟩) hHeld ?_
      try simp only [List.getElem_toArray, List.getElem_cons_succ, List.getElem_cons_zero, Act.put, List.setIfInBounds_toArray, List.set_cons_zero, List.set_cons_succ]
      refine wpAnyZ_take (i := 7) (v := .int .i64 (i : Int)) rfl (by kernel_rfl) (by kernel_rfl) (by kernel_rfl) (by kernel_rfl) (fun _ _ _ h => h) (Or.inl ⟨by rfl, fun w hSw => by (obtain ⟨e0, e1, e2, e3⟩ := hSw; go_simp)⟩) hHeld ?_
      try simp only [List.getElem_toArray, List.getElem_cons_succ, List.getElem_cons_zero, Act.put, List.setIfInBounds_toArray, List.set_cons_zero, List.set_cons_succ]
      refine wpAnyZ_take (i := 8) (v := .pointer (some ⟨bh, oh + i, none⟩)) rfl (by kernel_rfl) (by kernel_rfl) (by kernel_rfl) (by kernel_rfl) (fun _ _ _ h => h) (Or.inl ⟨by rfl, fun w hSw => by (obtain ⟨e0, e1, e2, e3⟩ := hSw; go_simp)⟩) hHeld ?_
      try simp only [List.getElem_toArray, List.getElem_cons_succ, List.getElem_cons_zero, Act.put, List.setIfInBounds_toArray, List.set_cons_zero, List.set_cons_succ]
      refine wpAnyZ_take (i := 9) (v := .int .i64 h) rfl (by kernel_rfl) (by kernel_rfl) (by kernel_rfl) (by kernel_rfl) (fun _ _ _ h => h) (Or.inl ⟨by rfl, fun w hSw => by (obtain ⟨e0, e1, e2, e3⟩ := hSw; go_simp)⟩) hHeld ?_
      try simp only [List.getElem_toArray, List.getElem_cons_succ, List.getElem_cons_zero, Act.put, List.setIfInBounds_toArray, List.set_cons_zero, List.set_cons_succ]
      refine wpAnyZ_take (i := 10) (v := .slice (some ⟨bl, ol, none⟩) n lc) rfl (by kernel_rfl) (by kernel_rfl) (by kernel_rfl) (by kernel_rfl) (fun _ _ _ h => h) (Or.inl ⟨by rfl, fun w hSw => by (obtain ⟨e0, e1, e2, e3⟩ := hSw; go_simp)⟩) hHeld ?_
      try simp only [List.getElem_toArray, List.getElem_cons_succ, List.getElem_cons_zero, Act.put, List.setIfInBounds_toArray, List.set_cons_zero, List.set_cons_succ]
      refine wpAnyZ_take (i := 11) (v := .int .i64 (i : Int)) rfl (by kernel_rfl) (by kernel_rfl) (by kernel_rfl) (by kernel_rfl) (fun _ _ _ h => h) (Or.inl ⟨by rfl, fun w hSw => by (obtain ⟨e0, e1, e2, e3⟩ := hSw; go_simp)⟩) hHeld ?_
      try simp only [List.getElem_toArray, List.getElem_cons_succ, List.getElem_cons_zero, Act.put, List.setIfInBounds_toArray, List.set_cons_zero, List.set_cons_succ]
      refine wpAnyZ_take (i := 12) (v := .pointer (some ⟨bl, ol + i, none⟩)) rfl (by kernel_rfl) (by kernel_rfl) (by kernel_rfl) (by kernel_rfl) (fun _ _ _ h => h) (Or.inl ⟨by rfl, fun w hSw => by (obtain ⟨e0, e1, e2, e3⟩ := hSw; go_simp)⟩) hHeld ?_
      try simp only [List.getElem_toArray, List.getElem_cons_succ, List.getElem_cons_zero, Act.put, List.setIfInBounds_toArray, List.set_cons_zero, List.set_cons_succ]
      refine wpAnyZ_take (i := 13) (v := .int .i64 l) rfl (by kernel_rfl) (by kernel_rfl) (by kernel_rfl) (by kernel_rfl) (fun _ _ _ h => h) (Or.inl ⟨by rfl, fun w hSw => by (obtain ⟨e0, e1, e2, e3⟩ := hSw; go_simp)⟩) hHeld ?_
      try simp only [List.getElem_toArray, List.getElem_cons_succ, List.getElem_cons_zero, Act.put, List.setIfInBounds_toArray, List.set_cons_zero, List.set_cons_succ]
      refine wpAnyZ_take (i := 5) (v := .int .i64 (f k)) rfl (by kernel_rfl) (by kernel_rfl) (by kernel_rfl) (by kernel_rfl) (fun _ _ _ h => h) (Or.inl ⟨by rfl, fun w hSw => by (obtain ⟨e0, e1, e2, e3⟩ := hSw; have hl := e3.look hk64; go_simp)⟩) hHeld ?_
      try simp only [List.getElem_toArray, List.getElem_cons_succ, List.getElem_cons_zero, Act.put, List.setIfInBounds_toArray, List.set_cons_zero, List.set_cons_succ]
      refine wpAnyZ_take (i := 14) (v := .int .i64 (h - l)) rfl (by kernel_rfl) (by kernel_rfl) (by kernel_rfl) (by kernel_rfl) (fun _ _ _ h => h) (Or.inl ⟨by rfl, fun w hSw => by (obtain ⟨e0, e1, e2, e3⟩ := hSw; go_simp)⟩) hHeld ?_
      try simp only [List.getElem_toArray, List.getElem_cons_succ, List.getElem_cons_zero, Act.put, List.setIfInBounds_toArray, List.set_cons_zero, List.set_cons_succ]
      refine wpAnyZ_take (i := 15) (v := .int .i64 x) rfl (by kernel_rfl) (by kernel_rfl) (by kernel_rfl) (by kernel_rfl) (fun _ _ _ h => h) (Or.inl ⟨by rfl, fun w hSw => by (obtain ⟨e0, e1, e2, e3⟩ := hSw; go_simp)⟩) hHeld ?_
      try simp only [List.getElem_toArray, List.getElem_cons_succ, List.getElem_cons_zero, Act.put, List.setIfInBounds_toArray, List.set_cons_zero, List.set_cons_succ]
      refine wpAnyZ_take (i := 16) (v := .int .i64 x) rfl (by kernel_rfl) (by kernel_rfl) (by kernel_rfl) (by kernel_rfl) (fun _ _ _ h => h) (Or.inl ⟨by rfl, fun w hSw => by (obtain ⟨e0, e1, e2, e3⟩ := hSw; go_simp)⟩) hHeld ?_
      try simp only [List.getElem_toArray, List.getElem_cons_succ, List.getElem_cons_zero, Act.put, List.setIfInBounds_toArray, List.set_cons_zero, List.set_cons_succ]
      refine wpAnyZ_done (by kernel_rfl) ?_ _
      clear hHeld hx
      have cI1 := (HKK.out _ v0).2.2.1
      go_wp2_with (first
        | (at_lookup; refine wpList_look_imap _ rfl _ _ rfl b (cn + j) K f k rfl rfl (HMM.out.same rfl) hk64 ?_)
        | (at_mapUpdate; refine wpList_store_imap _ rfl _ _ _ rfl b (cn + j) K f k (f k - x) rfl rfl ?u1 (HMM.out.same rfl) ?u2 hk64 ?u3 ?_; rotate_right; intro w3 hM3 hT3))
      case u1 => first | rfl | (congr 1; omega)
      case u2 => omega
      case u3 => unfold isI64; omega
      clear cI1
      have v3 : ExtBut b wr w3 := v0.trans hT3.but
      have sE := HE.out.size
      have sP := HP.out.lt
      have hP3 : Arr w3 w1.heap.size 55 r.cells := hT3.arr (by omega) (show Arr wr.drew _ _ _ from HP.out)
      have hC3 : Arr w3 w.heap.size 55 [.bool false, .slice none 0 0, .slice none 0 0] := hT3.arr (by omega) (show Arr wr.drew _ _ _ from HC.out)
      have hKK7 : ∀ w', Ext w3 w' → w'.cell? ⟨w1.heap.size, 0, none⟩ = some (.bool r.s) ∧ w'.cell? ⟨w1.heap.size, 1, none⟩ = some (.slice r.a r.k r.c) ∧ w'.cell? ⟨w1.heap.size, 2, none⟩ = some (.slice r.b r.j r.d) ∧ w'.frozen? ⟨w1.heap.size, 0, none⟩ = false ∧ w'.frozen? ⟨w1.heap.size, 1, none⟩ = false ∧ w'.frozen? ⟨w1.heap.size, 2, none⟩ = false ∧ w'.cell? ⟨bt, ot + i * 3, none⟩ = some (.bool y.s) ∧ w'.cell? ⟨bt, ot + i * 3 + 1, none⟩ = some (.slice y.a y.k y.c) ∧ w'.cell? ⟨bt, ot + i * 3 + 2, none⟩ = some (.slice y.b y.j y.d) ∧ w'.cell? ⟨bl, ol + i, none⟩ = some (.int .i64 l) := fun V hV => by
        obtain ⟨p0, p1, p2, p3, p4, p5⟩ := box3 hP3 hV
        obtain ⟨a1, _, _, a4, a5, a6⟩ := HKK.out _ (v3.trans (hV.but b))
        exact ⟨p0, p1, p2, p3, p4, p5, a4, a5, a6, a1⟩
      have HK7 := Lib.hid hKK7
      have HM3 := Lib.hid hM3
      have HP3 := Lib.hid hP3
      have HC3 := Lib.hid hC3
      have y0 : Ext w3 w3.drew := (Ext.refl _).drew
      have HFI := fun V => rat_FromInt V (l + x) (by omega) (by omega)
      have s3 := hT3.size
      clear hKK7 hM3 hP3 hC3 hT3
      go_wp2_with fail
      refine wp_region_Z (S := fun w' => w'.cell? ⟨w1.heap.size, 0, none⟩ = some (.bool r.s) ∧ w'.cell? ⟨w1.heap.size, 1, none⟩ = some (.slice r.a r.k r.c) ∧ w'.cell? ⟨w1.heap.size, 2, none⟩ = some (.slice r.b r.j r.d) ∧ w'.frozen? ⟨w1.heap.size, 0, none⟩ = false ∧ w'.frozen? ⟨w1.heap.size, 1, none⟩ = false ∧ w'.frozen? ⟨w1.heap.size, 2, none⟩ = false ∧ w'.cell? ⟨bt, ot + i * 3, none⟩ = some (.bool y.s) ∧ w'.cell? ⟨bt, ot + i * 3 + 1, none⟩ = some (.slice y.a y.k y.c) ∧ w'.cell? ⟨bt, ot + i * 3 + 2, none⟩ = some (.slice y.b y.j y.d) ∧ w'.cell? ⟨bl, ol + i, none⟩ = some (.int .i64 l)) (fun i => i == 14) (by kernel_rfl) (HK7.out _ y0) (fun hHeld => ?_)
      refine wpAnyZ_take (i := 0) (v := .agg #[.bool r.s, .slice r.a r.k r.c, .slice r.b r.j r.d]) rfl (by kernel_rfl) (by kernel_rfl) (by kernel_rfl) (by kernel_rfl) (fun _ _ _ h => h) (Or.inl ⟨by rfl, fun w hSw => by (obtain ⟨e0, e1, e2, e3, e4, e5, e6, e7, e8, e9⟩ := hSw; go_simp)⟩) hHeld ?_
      try simp only [List.getElem_toArray, List.getElem_cons_zero, Act.put, List.setIfInBounds_toArray, List.set_cons_zero, List.set_cons_succ]
      refine wpAnyZ_take (i := 1) (v := .slice (some ⟨bt, ot, none⟩) n tc) rfl (by kernel_rfl) (by kernel_rfl) (by kernel_rfl) (by kernel_rfl) (fun _ _ _ h => h) (Or.inl ⟨by rfl, fun w hSw => by (obtain ⟨e0, e1, e2, e3, e4, e5, e6, e7, e8, e9⟩ := hSw; go_simp)⟩) hHeld ?_
      try simp only [List.getElem_toArray, List.getElem_cons_succ, List.getElem_cons_zero, Act.put, List.setIfInBounds_toArray, List.set_cons_zero, List.set_cons_succ]
      refine wpAnyZ_take (i := 2) (v := .int .i64 (i : Int)) rfl (by kernel_rfl) (by kernel_rfl) (by kernel_rfl) (by kernel_rfl) (fun _ _ _ h => h) (Or.inl ⟨by rfl, fun w hSw => by (obtain ⟨e0, e1, e2, e3, e4, e5, e6, e7, e8, e9⟩ := hSw; go_simp)⟩) hHeld ?_
      try simp only [List.getElem_toArray, List.getElem_cons_succ, List.getElem_cons_zero, Act.put, List.setIfInBounds_toArray, List.set_cons_zero, List.set_cons_succ]
      refine wpAnyZ_take (i := 3) (v := .pointer (some ⟨bt, ot + i * 3, none⟩)) rfl (by kernel_rfl) (by kernel_rfl) (by kernel_rfl) (by kernel_rfl) (fun _ _ _ h => h) (Or.inl ⟨by rfl, fun w hSw => by (obtain ⟨e0, e1, e2, e3, e4, e5, e6, e7, e8, e9⟩ := hSw; go_simp)⟩) hHeld ?_
      try simp only [List.getElem_toArray, List.getElem_cons_succ, List.getElem_cons_zero, Act.put, List.setIfInBounds_toArray, List.set_cons_zero, List.set_cons_succ]
      refine wpAnyZ_take (i := 4) (v := .agg #[.bool y.s, .slice y.a y.k y.c, .slice y.b y.j y.d]) rfl (by kernel_rfl) (by kernel_rfl) (by kernel_rfl) (by kernel_rfl) (fun _ _ _ h => h) (Or.inl ⟨by rfl, fun w hSw => by (obtain ⟨e0, e1, e2, e3, e4, e5, e6, e7, e8, e9⟩ := hSw; go_simp)⟩) hHeld ?_
      try simp only [List.getElem_toArray, List.getElem_cons_succ, List.getElem_cons_zero, Act.put, List.setIfInBounds_toArray, List.set_cons_zero, List.set_cons_succ]
      refine wpAnyZ_take (i := 5) (v := .slice (some ⟨bl, ol, none⟩) n lc) rfl (by kernel_rfl) (by kernel_rfl) (by kernel_rfl) (by kernel_rfl) (fun _ _ _ h => h) (Or.inl ⟨by rfl, fun w hSw => by (obtain ⟨e0, e1, e2, e3, e4, e5, e6, e7, e8, e9⟩ := hSw; go_simp)⟩) hHeld ?_
      try simp only [List.getElem_toArray, List.getElem_cons_succ, List.getElem_cons_zero, Act.put, List.setIfInBounds_toArray, List.set_cons_zero, List.set_cons_succ]
      refine wpAnyZ_take (i := 6) (v := .int .i64 (i : Int)) rfl (by kernel_rfl) (by kernel_rfl) (by kernel_rfl) (by kernel_rfl) (fun _ _ _ h => h) (Or.inl ⟨by rfl, fun w hSw => by (obtain ⟨e0, e1, e2, e3, e4, e5, e6, e7, e8, e9⟩ := hSw; go_simp)⟩) hHeld ?_
      try simp only [List.getElem_toArray, List.getElem_cons_succ, List.getElem_cons_zero, Act.put, List.setIfInBounds_toArray, List.set_cons_zero, List.set_cons_succ]
      refine wpAnyZ_take (i := 7) (v := .pointer (some ⟨bl, ol + i, none⟩)) rfl (by kernel_rfl) (by kernel_rfl) (by kernel_rfl) (by kernel_rfl) (fun _ _ _ h => h) (Or.inl ⟨by rfl, fun w hSw => by (obtain ⟨e0, e1, e2, e3, e4, e5, e6, e7, e8, e9⟩ := hSw; go_simp)⟩) hHeld ?_
      try simp only [List.getElem_toArray, List.getElem_cons_succ, List.getElem_cons_zero, Act.put, List.setIfInBounds_toArray, List.set_cons_zero, List.set_cons_succ]
      refine wpAnyZ_take (i := 8) (v := .int .i64 l) rfl (by kernel_rfl) (by kernel_rfl) (by kernel_rfl) (by kernel_rfl) (fun _ _ _ h => h) (Or.inl ⟨by rfl, fun w hSw => by (obtain ⟨e0, e1, e2, e3, e4, e5, e6, e7, e8, e9⟩ := hSw; go_simp)⟩) hHeld ?_
      try simp only [List.getElem_toArray, List.getElem_cons_succ, List.getElem_cons_zero, Act.put, List.setIfInBounds_toArray, List.set_cons_zero, List.set_cons_succ]
      refine wpAnyZ_take (i := 9) (v := .int .i64 x) rfl (by kernel_rfl) (by kernel_rfl) (by kernel_rfl) (by kernel_rfl) (fun _ _ _ h => h) (Or.inl ⟨by rfl, fun w hSw => by (obtain ⟨e0, e1, e2, e3, e4, e5, e6, e7, e8, e9⟩ := hSw; go_simp)⟩) hHeld ?_
      try simp only [List.getElem_toArray, List.getElem_cons_succ, List.getElem_cons_zero, Act.put, List.setIfInBounds_toArray, List.set_cons_zero, List.set_cons_succ]
      refine wpAnyZ_take (i := 10) (v := .int .i64 (l + x)) rfl (by kernel_rfl) (by kernel_rfl) (by kernel_rfl) (by kernel_rfl) (fun _ _ _ h => h) (Or.inl ⟨by rfl, fun w hSw => by (obtain ⟨e0, e1, e2, e3, e4, e5, e6, e7, e8, e9⟩ := hSw; go_simp)⟩) hHeld ?_
      try simp only [List.getElem_toArray, List.getElem_cons_succ, List.getElem_cons_zero, Act.put, List.setIfInBounds_toArray, List.set_cons_zero, List.set_cons_succ]
      refine wpAnyZ_ready (rs := [11]) (by kernel_rfl) (by simp) ?_
      refine AllReadyZ.cons rfl (fun Kc hK => ?_) AllReadyZ.nil
      go_simp
      refine (HFI _).mono ?_
      intro e z1 hN
      obtain ⟨q1, rfl, hq1, x1⟩ := hN.isCan
      clear hN
      have y1 := y0.trans x1
      refine hK.out _ _ (HK7.out _ y1) (fun hHeld => ?_)
      clear hK Kc
      try simp only [List.getElem_toArray, List.getElem_cons_succ, List.getElem_cons_zero, Act.put, List.setIfInBounds_toArray, List.set_cons_zero, List.set_cons_succ]
      refine wpAnyZ_ready (rs := [12]) (by kernel_rfl) (by simp) ?_
      refine AllReadyZ.cons rfl (fun Kc hK => ?_) AllReadyZ.nil
      go_simp
      refine (HMu.out _ (v3.trans (y1.but b)) _ _ hq1).mono ?_
      intro e z2 hN
      obtain ⟨q2, rfl, hq2, x2⟩ := hN.isCan
      clear hN
      have y2 := y1.trans x2
      refine hK.out _ _ (HK7.out _ y2) (fun hHeld => ?_)
      clear hK Kc
      try simp only [List.getElem_toArray, List.getElem_cons_succ, List.getElem_cons_zero, Act.put, List.setIfInBounds_toArray, List.set_cons_zero, List.set_cons_succ]
      refine wpAnyZ_ready (rs := [13]) (by kernel_rfl) (by simp) ?_
      refine AllReadyZ.cons rfl (fun Kc hK => ?_) AllReadyZ.nil
      go_simp
      refine (HAd.out _ (v3.trans (y2.but b)) _ _ hq2).mono ?_
      intro e z3 hN
      obtain ⟨q3, rfl, hq3, x3⟩ := hN.isCan
      clear hN
      have y3 := y2.trans x3
      refine hK.out _ _ (HK7.out _ y3) (fun hHeld => ?_)
      clear hK Kc
      try simp only [List.getElem_toArray, List.getElem_cons_succ, List.getElem_cons_zero, Act.put, List.setIfInBounds_toArray, List.set_cons_zero, List.set_cons_succ]
      obtain ⟨e0, e1, e2, e3, e4, e5, e6, e7, e8, e9⟩ := HK7.out _ y3
      refine wpAnyZ_ready (rs := [14]) (by kernel_rfl) (by simp) ?_
      refine AllReadyZ.last rfl rfl (fun Kc hK => ?_) AllReadyZ.nil
      go_simp
      
      refine hK.out _ _ ?_
      clear hK Kc
      try simp only [List.getElem_toArray, List.getElem_cons_succ, List.getElem_cons_zero, Act.put, List.setIfInBounds_toArray, List.set_cons_zero, List.set_cons_succ]
      refine wpAnyZ_done (by kernel_rfl) ?_ _
      clear hHeld e0 e1 e2 e3 e4 e5 e6 e7 e8 e9
      have sy := y3.size
      have hz6 : w1.heap.size < z2.heap.size := by have := y2.size; have := HP3.out.lt; omega
      have A6 := HP3.out.ext y3
      have C6 := HC3.out.ext y3
      have M6 := HM3.out.ext y3
      have E6 : ExtBut b w z3 := HE.out.trans (v3.trans (y3.but b))
      have hsz3 : rsz (S + q * (((l + x : Int)) : Rat)) ≤ 1 + (j + 1) * (L + 8) := by
        have := rsz_add S (q * (((l + x : Int)) : Rat)); have := HMZ.out; have := HSz.out
        rw [Nat.succ_mul]; omega
      have hEq : S + q * (((l + x : Int)) : Rat) + fillSum (atQ qs) (at0 lo) (at0 hi) (at0 isl) (os.drop (j + 1)) (upd f k (f k - x)) = tot := by
        rw [Rat.add_assoc]; exact HT.out
      have hf6 : ∀ k', 0 ≤ upd f k (f k - x) k' ∧ upd f k (f k - x) k' ≤ 1099511627776 := by
        intro k'
        by_cases hk' : k' = k
        · rw [hk', upd_self]; omega
        · rw [upd_other _ _ _ _ hk']; exact HFA.out k'
      have HFin : Hid (FillAt w b w1.heap.size cn L (atQ qs) (at0 lo) (at0 hi) (at0 isl) os tot (j + 1) (((z3.setCell ⟨w1.heap.size, 0, none⟩ (.bool q3.s)).setCell ⟨w1.heap.size, 1, none⟩ (.slice q3.a q3.k q3.c)).setCell ⟨w1.heap.size, 2, none⟩ (.slice q3.b q3.j q3.d))) :=
        ⟨q3, _, _, _, ((A6.set 0 _).set 1 _).set 2 _, (((hq3.setCell ⟨w1.heap.size, 0, none⟩ _ hz6).setCell ⟨w1.heap.size, 1, none⟩ _ hz6).setCell ⟨w1.heap.size, 2, none⟩ _ hz6).mono (by omega), hsz3,
          ((M6.setCell ⟨w1.heap.size, 0, none⟩ _ (by simp only; omega)).setCell ⟨w1.heap.size, 1, none⟩ _ (by simp only; omega)).setCell ⟨w1.heap.size, 2, none⟩ _ (by simp only; omega), hf6, hEq,
          ((E6.setCell (p := ⟨w1.heap.size, 0, none⟩) (by simp only; omega) _).setCell (p := ⟨w1.heap.size, 1, none⟩) (by simp only; omega) _).setCell (p := ⟨w1.heap.size, 2, none⟩) (by simp only; omega) _,
          ((C6.other ⟨w1.heap.size, 0, none⟩ _ (by simp only; omega)).other ⟨w1.heap.size, 1, none⟩ _ (by simp only; omega)).other ⟨w1.heap.size, 2, none⟩ _ (by simp only; omega)⟩
      clear A6 C6 M6 E6 hq3 hf6 hEq hsz3
      go_wp2_with fail
      exact ⟨⟨j + 1, by omega, HFin.out, by go_num⟩, by simp only [intOf]; omega⟩
    · obtain rfl : j = os.length := by omega
      rw [List.drop_length] at hT
      have hST : S = tot := by rw [← hT]; unfold fillSum; rw [Rat.add_zero]
      subst hST
      obtain ⟨p0, p1, p2, p3, p4, p5⟩ := box3 hP (Ext.refl _)
      obtain ⟨q0, q1, q2, q3, q4, q5⟩ := box3 hC (Ext.refl _)
      have sE := hE.size
      have sC := hC.lt
      clear SI HB HF HOS HTOT HR HLO HHI HIL HOR hM hf hT hSz
      go_wp2_with fail
      refine bodyPost_ret (by simp [results, Tryz.results70, go_sem, *]) rfl ⟨r, rfl, ?_, ?_⟩
      · exact (((hS.setCell ⟨w.heap.size, 0, none⟩ _ (Nat.lt_succ_self _)).setCell ⟨w.heap.size, 1, none⟩ _ (Nat.lt_succ_self _)).setCell ⟨w.heap.size, 2, none⟩ _ (Nat.lt_succ_self _)).mono (Nat.le_succ _)
      · exact ((hE.setCell (p := ⟨w.heap.size, 0, none⟩) (Nat.le_refl _) _).setCell (p := ⟨w.heap.size, 1, none⟩) (Nat.le_refl _) _).setCell (p := ⟨w.heap.size, 2, none⟩) (Nat.le_refl _) _

end Go.Proofs.YtgihpfkjpfanmaaGreat


namespace Go.Proofs.YtgihpfkjpfanmaaGreat
open Go.RowKit Go.Sort Go.Shelf

theorem cmpQ_neg (p q : Rat) : cmpQ (-q) (-p) = cmpQ p q := by
  rcases cmpQ_cases p q with h | h | h
  · have h1 : cmpQ (-q) (-p) < 0 := cmpQ_lt.2 (by have := cmpQ_lt.1 (show cmpQ p q < 0 by omega); grind)
    rcases cmpQ_cases (-q) (-p) with g | g | g <;> omega
  · have h1 : cmpQ (-q) (-p) = 0 := cmpQ_eq.2 (by have := cmpQ_eq.1 h; rw [this])
    omega
  · have h1 : 0 < cmpQ (-q) (-p) := cmpQ_gt.2 (by have := cmpQ_gt.1 (show 0 < cmpQ p q by omega); grind)
    rcases cmpQ_cases (-q) (-p) with g | g | g <;> omega

def negs (ts : List Rat) : List Rat := ts.map fun q => -q
theorem negs_get (ts : List Rat) (i : Nat) : (negs ts)[i]?.getD 0 = -(atQ ts i) := by
  unfold negs atQ
  rw [List.getElem?_map]
  cases ts[i]? with
  | none => simp
  | some q => rfl
theorem scCmp_eq (ts : List Rat) (x y : Nat) : apCmp (negs ts) x y = orZ (cmpQ (atQ ts x) (atQ ts y)) (cmpZ (x : Int) (y : Int)) := by
  unfold apCmp
  rw [negs_get, negs_get, cmpQ_neg]

set_option maxHeartbeats 1000000 in
set_option maxRecDepth 100000 in
theorem sc_cmp (w : World) (pb n L tc : Nat) (ta : Option Addr) (rs : List RVal) (fs : List Rat) (hp : w.cell? ⟨pb, 0, none⟩ = some (.slice ta n tc)) (hR : Rats w ta tc rs fs L) (hn : rs.length = n) (hL : L < 100000000) (x y : Nat) (hx : x < n) (hy : y < n) :
    Calls Tryz.prog 66 #[.int .i64 (x : Nat), .int .i64 (y : Nat), .pointer (some ⟨pb, 0, none⟩)] w fun e w' => e = .returned (.int .i64 (apCmp (negs fs) x y)) ∧ Ext w w' := by
  have hsh := hR.short
  have hle := hR.le
  have hcap := hR.cap
  obtain ⟨g, o, rfl, xc0, xc1, xc2⟩ := hR.cell x (by omega)
  obtain ⟨b2, o2, e2, yc0, yc1, yc2⟩ := hR.cell y (by omega)
  cases e2
  obtain ⟨n1, m1, r1, q1, v1, l1, l2⟩ := hR.num x (by omega)
  obtain ⟨n2, m2, r2, q2, v2, l3, l4⟩ := hR.num y (by omega)
  have hC := fun V (hV : Ext w V) => rat_Compare V rs[x].s _ _ _ _ _ _ _ _ (r1.ext hV) (q1.ext hV) rs[y].s _ _ _ _ _ _ _ _ (r2.ext hV) (q2.ext hV) (by omega) (by omega) (by omega) (by omega)
  have ex : atQ fs x = fs[x]'(by rw [hR.len]; omega) := atQ_eq (by rw [hR.len]; omega)
  have ey : atQ fs y = fs[y]'(by rw [hR.len]; omega) := atQ_eq (by rw [hR.len]; omega)
  rw [← v1, ← v2, ← ex, ← ey] at hC
  rw [scCmp_eq]
  generalize cmpQ (atQ fs x) (atQ fs y) = z at hC ⊢
  have HC := Lib.hid hC
  clear hC ex ey v1 v2
  generalize rs[x] = rx at *
  generalize rs[y] = ry at *
  have bx : (x : Int) < (n : Int) := by omega
  have by' : (y : Int) < (n : Int) := by omega
  have cx : (0 : Int) ≤ (x : Int) := by omega
  have cy : (0 : Int) ≤ (y : Int) := by omega
  have hz := block_lt hp
  have hg := block_lt xc0
  simp only at hz hg
  go_enter Tryz.func66, Tryz.ntmps66
  go_wp2_with fail
  go_region_held3 (fun w' => w'.cell? ⟨pb, 0, none⟩ = some (.slice (some ⟨g, o, none⟩) n tc) ∧ w'.cell? ⟨g, o + x * 3, none⟩ = some (.bool rx.s) ∧ w'.cell? ⟨g, o + x * 3 + 1, none⟩ = some (.slice rx.a rx.k rx.c) ∧ w'.cell? ⟨g, o + x * 3 + 2, none⟩ = some (.slice rx.b rx.j rx.d) ∧ w'.cell? ⟨g, o + y * 3, none⟩ = some (.bool ry.s) ∧ w'.cell? ⟨g, o + y * 3 + 1, none⟩ = some (.slice ry.a ry.k ry.c) ∧ w'.cell? ⟨g, o + y * 3 + 2, none⟩ = some (.slice ry.b ry.j ry.d)) (first | exact ⟨hp, xc0, xc1, xc2, yc0, yc1, yc2⟩ | exact ⟨cell_al hp, cell_al xc0, cell_al xc1, cell_al xc2, cell_al yc0, cell_al yc1, cell_al yc2⟩) (first
    | (go_at_call 68; refine (HC.out _ (by exact (Ext.refl _).drew)).mono ?_; rintro e w1 ⟨rfl, x1⟩; have hp := cell_ext ((Ext.refl w).drew.trans x1) hp; have xc0 := cell_ext ((Ext.refl w).drew.trans x1) xc0; have xc1 := cell_ext ((Ext.refl w).drew.trans x1) xc1; have xc2 := cell_ext ((Ext.refl w).drew.trans x1) xc2; have yc0 := cell_ext ((Ext.refl w).drew.trans x1) yc0; have yc1 := cell_ext ((Ext.refl w).drew.trans x1) yc1; have yc2 := cell_ext ((Ext.refl w).drew.trans x1) yc2)
    | (go_at_call 69; refine (cmp_int _ _ _).mono ?_; rintro e w2 ⟨rfl, rfl⟩)
    | (go_at_call 67; refine (cmp_or _ _ _ _ (Arr.alloc w1 3 [.int .i64 z, .int .i64 (cmpZ (x : Int) (y : Int))])).mono ?_; rintro e w3 ⟨rfl, x3⟩; have y3 : Ext w1 w3 := ((Ext.refl w1).alloc _).trans x3; have hp := cell_ext y3 hp; have xc0 := cell_ext y3 xc0; have xc1 := cell_ext y3 xc1; have xc2 := cell_ext y3 xc2; have yc0 := cell_ext y3 yc0; have yc1 := cell_ext y3 yc1; have yc2 := cell_ext y3 yc2))
  all_goals go_wp2_with fail
  all_goals go_ret
  all_goals exact ⟨rfl, ((Ext.refl _).drew.trans x1).trans y3⟩

theorem sc_sort (w : World) (pb blk n c : Nat) (fs : List Rat) (h0 : 0 < n) (hn2 : n < 1000000) (hcl : ∀ V, Agree blk w V → ∀ x y : Nat, x < n → y < n → Calls Tryz.prog 66 #[.int .i64 (x : Nat), .int .i64 (y : Nat), .pointer (some ⟨pb, 0, none⟩)] V fun e w' => e = .returned (.int .i64 (apCmp fs x y)) ∧ Ext V w')
    (hO : ∀ j, j < n → w.cell? ⟨blk, j, none⟩ = some (.int .i64 (j : Nat)) ∧ w.frozen? ⟨blk, j, none⟩ = false) :
    Calls Tryz.prog 65 #[.slice (some ⟨blk, 0, none⟩) n c, .func (.func 66) #[] #[.pointer (some ⟨pb, 0, none⟩)]] w fun e w' => e = .returned (.tuple #[]) ∧ Sorted fs n blk w w' ∧ ∀ j, j < n → w'.frozen? ⟨blk, j, none⟩ = false := by
  obtain ⟨n', rfl⟩ : ∃ n', n = n' + 1 := ⟨n - 1, by omega⟩
  have eg : ∀ args w, (callFunc 66 args).run Tryz.prog w = .ok (.enter 66 args) w := enters_of Tryz.func66 (by kernel_rfl) rfl
  have hsw : SWO (ltOf (fun a b : Fin (n' + 1) => apCmp fs a b)) := by
    have e : ∀ a b : Fin (n' + 1), ltOf (fun a b : Fin (n' + 1) => apCmp fs a b) a b = false ↔ ¬ apLt fs a b := by
      intro a b; unfold ltOf; rw [decide_eq_false_iff_not, apCmp_lt]
    have e' : ∀ a b : Fin (n' + 1), ltOf (fun a b : Fin (n' + 1) => apCmp fs a b) a b = true ↔ apLt fs a b := by
      intro a b; unfold ltOf; rw [decide_eq_true_iff, apCmp_lt]
    refine ⟨fun x => (e x x).2 (apLt_irrefl fs x), fun x y z h1 h2 => (e' x z).2 (apLt_trans ((e' x y).1 h1) ((e' y z).1 h2)), fun x y z h1 h2 => (e x z).2 (apLt_ntrans ((e x y).1 h1) ((e y z).1 h2))⟩
  have htot : ∀ x y : Fin (n' + 1), ltOf (fun a b : Fin (n' + 1) => apCmp fs a b) x y = false → ltOf (fun a b : Fin (n' + 1) => apCmp fs a b) y x = false → x = y := by
    intro x y h1 h2
    unfold ltOf at h1 h2
    rw [decide_eq_false_iff_not, apCmp_lt] at h1 h2
    exact Fin.ext (apLt_total fs x y h1 h2)
  have hsz : (Array.ofFn (fun i : Fin (n' + 1) => i)).size = n' + 1 := by simp
  have hH : Holds (fun i : Fin (n' + 1) => Value.int .i64 (i.val : Nat)) w blk 0 (Array.ofFn (fun i : Fin (n' + 1) => i)) := by
    intro j hj
    rw [hsz] at hj
    rw [Nat.zero_add, getElem!_pos _ j (by rw [hsz]; exact hj)]
    simp only [Array.getElem_ofFn]
    exact hO j hj
  have hblk : blk < w.heap.size := block_lt (p := ⟨blk, 0, none⟩) (hO 0 (by omega)).1
  have hcmp : CmpLays1 Tryz.prog 66 #[.pointer (some ⟨pb, 0, none⟩)] (fun i : Fin (n' + 1) => Value.int .i64 (i.val : Nat)) (fun a b : Fin (n' + 1) => apCmp fs a b) blk 0 (Array.ofFn (fun i : Fin (n' + 1) => i)).size w := by
    intro m os dk _ x y
    have ag := agree_sortWorld (fun i : Fin (n' + 1) => Value.int .i64 (i.val : Nat)) w blk 0 m dk os
    refine (hcl _ ag x y x.2 y.2).mono ?_
    rintro e w' ⟨he, hx⟩
    exact ⟨he, hx.grow⟩
  have hS := Any.slices_SortFunc_total Tryz.sortL (fun i : Fin (n' + 1) => Value.int .i64 (i.val : Nat)) (fun _ => rfl) (fun a b : Fin (n' + 1) => apCmp fs a b) hsw 66 #[.pointer (some ⟨pb, 0, none⟩)] blk 0 c (Array.ofFn (fun i : Fin (n' + 1) => i)) w eg hcmp hH hblk (by rw [hsz]; omega) htot
  rw [hsz] at hS
  change Calls Tryz.prog 65 _ _ _ at hS
  refine hS.mono ?_
  rintro e w' ⟨he, m, os, rfl⟩
  refine ⟨he, ?_⟩
  have hl : (Array.ofFn (fun i : Fin (n' + 1) => i)).toList = List.finRange (n' + 1) := by simp [List.finRange]
  rw [hl]
  have hlen : (apOrder fs (n' + 1)).toArray.size = n' + 1 := by simp [apOrder]
  refine ⟨⟨fun j hj => ?_, agree_sortWorld _ _ _ _ _ _ _, ?_, rfl, rfl, rfl, ?_⟩, fun j hj => ?_⟩
  · have hw : SW (fun i : Fin (n' + 1) => Value.int .i64 (i.val : Nat)) w blk 0 (apOrder fs (n' + 1)).toArray (sortWorld (fun i : Fin (n' + 1) => Value.int .i64 (i.val : Nat)) w blk 0 m (apOrder fs (n' + 1)).toArray os) := ⟨m, os, rfl⟩
    have h5 := (hw.holds hblk hH (by rw [hlen, hsz]) j (by rw [hlen]; exact hj)).1
    rw [Nat.zero_add] at h5
    refine h5.trans ?_
    rw [getElem!_pos _ j (by rw [hlen]; exact hj)]
    unfold apAt
    rw [List.getElem?_eq_getElem (by have := hlen; simp at this; omega)]
    rfl
  · show w.heap.size ≤ (sortWorld _ w blk 0 m _ os).heap.size
    unfold sortWorld
    rw [size_grow, size_putRow]; exact Nat.le_add_right _ _
  · show w.drawn ≤ w.drawn + m
    exact Nat.le_add_right _ _
  · have hw : SW (fun i : Fin (n' + 1) => Value.int .i64 (i.val : Nat)) w blk 0 (apOrder fs (n' + 1)).toArray (sortWorld (fun i : Fin (n' + 1) => Value.int .i64 (i.val : Nat)) w blk 0 m (apOrder fs (n' + 1)).toArray os) := ⟨m, os, rfl⟩
    have h5 := (hw.holds hblk hH (by rw [hlen, hsz]) j (by rw [hlen]; exact hj)).2
    rw [Nat.zero_add] at h5
    exact h5

/-- The places in ascending order. -/
def scOrder (ts : List Rat) (n : Nat) : List Nat := (List.range n).map (apAt (negs ts) n)
theorem scOrder_length (ts : List Rat) (n : Nat) : (scOrder ts n).length = n := by simp [scOrder]
theorem scOrder_get (ts : List Rat) (n j : Nat) (h : j < n) : (scOrder ts n)[j]'(by rw [scOrder_length]; exact h) = apAt (negs ts) n j := by simp [scOrder]
theorem scOrder_perm (ts : List Rat) (n : Nat) : (scOrder ts n).Perm (List.range n) := by
  have h1 : scOrder ts n = (apOrder (negs ts) n).map (·.val) := by
    apply List.ext_getElem
    · rw [scOrder_length, List.length_map, apOrder_length]
    · intro j h1 h2
      rw [scOrder_length] at h1
      rw [scOrder_get _ _ _ h1, List.getElem_map, apAt_eq _ _ _ (by rw [apOrder_length]; exact h1)]
  rw [h1]
  have h2 := (apOrder_perm (negs ts) n).map (fun i : Fin n => i.val)
  have h3 : (List.finRange n).map (fun i : Fin n => i.val) = List.range n := by
    apply List.ext_getElem
    · simp
    · intro j h1 h2; simp
  rw [h3] at h2
  exact h2
theorem scOrder_mem (ts : List Rat) (n i : Nat) : i ∈ scOrder ts n ↔ i < n := by rw [(scOrder_perm ts n).mem_iff, List.mem_range]
theorem scOrder_sorted (ts : List Rat) (n : Nat) : (scOrder ts n).Pairwise (fun i j => atQ ts i ≤ atQ ts j) := by
  rw [List.pairwise_iff_getElem]
  intro i j hi hj hij
  rw [scOrder_length] at hi hj
  rw [scOrder_get _ _ _ hi, scOrder_get _ _ _ hj]
  rcases apAt_mono (negs ts) n i j hij hj with h | ⟨h, _⟩
  · rw [negs_get, negs_get] at h; grind
  · rw [negs_get, negs_get] at h; grind

end Go.Proofs.YtgihpfkjpfanmaaGreat


namespace Go.Proofs
open Go.Shelf
def Tryz.cloneL_ren : Go.Shelf.Ren := ⟨fun | 5 => 71 | 7 => 137 | n => n, fun | 23 => 114 | 25 => 3 | 3 => 3 | 4 => 4 | 20 => 20 | n => n, fun | n => n⟩
theorem Tryz.cloneL : Go.Proofs.SlLaysW.n5 Tryz.prog Tryz.cloneL_ren := {
  mixed := by kernel_rfl,
  f5 := ⟨Tryz.f71.name, by decide, Tryz.func71.trans (congrArg some (by kernel_rfl))⟩,
  f7 := Tryz.func137.trans (congrArg some (by kernel_rfl)),
  t4 := Tryz.underlying4,
  a4 := Tryz.isAgg4,
  z4 := Tryz.sizeOf4,
  v4 := Tryz.zeroValue4,
  t20 := Tryz.underlying20,
  a20 := Tryz.isAgg20,
  z20 := Tryz.sizeOf20,
  v20 := Tryz.zeroValue20,
  t23 := Tryz.underlying114,
  a23 := Tryz.isAgg114,
  z23 := Tryz.sizeOf114,
  v23 := Tryz.zeroValue114 }
end Go.Proofs


namespace Go.Proofs
open Go.Shelf
def Tryz.revL_ren : Go.Shelf.Ren := ⟨fun | 35 => 72 | n => n, fun | 22 => 22 | 23 => 3 | 3 => 3 | 4 => 4 | 0 => 0 | n => n, fun | n => n⟩
theorem Tryz.revL : Go.Proofs.SlLaysE.n35 Tryz.prog Tryz.revL_ren := {
  mixed := by kernel_rfl,
  f35 := ⟨Tryz.f72.name, by decide, Tryz.func72.trans (congrArg some (by kernel_rfl))⟩,
  t0 := Tryz.underlying0,
  a0 := Tryz.isAgg0,
  z0 := Tryz.sizeOf0,
  v0 := Tryz.zeroValue0,
  t3 := Tryz.underlying3,
  a3 := Tryz.isAgg3,
  z3 := Tryz.sizeOf3,
  v3 := Tryz.zeroValue3,
  t4 := Tryz.underlying4,
  a4 := Tryz.isAgg4,
  z4 := Tryz.sizeOf4,
  v4 := Tryz.zeroValue4,
  t22 := Tryz.underlying22,
  a22 := Tryz.isAgg22,
  z22 := Tryz.sizeOf22,
  v22 := Tryz.zeroValue22,
  a23 := Tryz.isAgg3,
  z23 := Tryz.sizeOf3 }
end Go.Proofs


namespace Go.Proofs.YtgihpfkjpfanmaaGreat
open Go.RowKit

theorem ksum_append (isl f : Nat → Int) (k : Int) (l l' : List Nat) : ksum isl f k (l ++ l') = ksum isl f k l + ksum isl f k l' := by
  induction l with
  | nil => simp [ksum]
  | cons i l ih => simp only [List.cons_append, ksum]; rw [ih]; omega
theorem ksum_range_succ (isl f : Nat → Int) (k : Int) (i : Nat) : ksum isl f k (List.range (i + 1)) = ksum isl f k (List.range i) + (if isl i = k then f i else 0) := by
  rw [List.range_succ, ksum_append]; simp [ksum]
theorem ksum_bound (isl f : Nat → Int) (k M : Int) (n : Nat) (hM : 0 ≤ M) (h : ∀ i, i < n → -M ≤ f i ∧ f i ≤ M) : -(n * M) ≤ ksum isl f k (List.range n) ∧ ksum isl f k (List.range n) ≤ n * M := by
  induction n with
  | zero => simp [ksum]
  | succ n ih =>
    have h1 := ih (fun i hi => h i (by omega))
    have h2 := h n (by omega)
    rw [ksum_range_succ]
    have e : ((n + 1 : Nat) : Int) * M = (n : Int) * M + M := by rw [Int.natCast_add, Int.add_mul]; simp
    rw [e]
    split <;> omega

/-- What is missing in an island, and the room in it. -/
def missF (lo isl : Nat → Int) (n : Nat) (k : Int) : Int := -(ksum isl lo k (List.range n))
def roomF (lo hi isl : Nat → Int) (n : Nat) (k : Int) : Int := ksum isl (fun i => hi i - lo i) k (List.range n)
def keyP (isl : Nat → Int) (n : Nat) (k : Int) : Prop := ∃ j, j < n ∧ isl j = k
theorem missF_zero (lo isl : Nat → Int) (k : Int) : missF lo isl 0 k = 0 := by simp [missF, ksum]
theorem roomF_zero (lo hi isl : Nat → Int) (k : Int) : roomF lo hi isl 0 k = 0 := by simp [roomF, ksum]
theorem missF_succ (lo isl : Nat → Int) (i : Nat) (x : Int) : upd (missF lo isl i) (isl i) (missF lo isl i (isl i) - lo i) x = missF lo isl (i + 1) x := by
  unfold upd missF
  rw [ksum_range_succ]
  by_cases h : x = isl i
  · subst h; simp; omega
  · rw [if_neg h, if_neg (fun e => h e.symm)]; omega
theorem roomF_succ (lo hi isl : Nat → Int) (i : Nat) (x : Int) : upd (roomF lo hi isl i) (isl i) (roomF lo hi isl i (isl i) + (hi i - lo i)) x = roomF lo hi isl (i + 1) x := by
  unfold upd roomF
  rw [ksum_range_succ]
  by_cases h : x = isl i
  · subst h; simp
  · rw [if_neg h, if_neg (fun e => h e.symm)]; omega
theorem keyP_succ (isl : Nat → Int) (i : Nat) (x : Int) : (x = isl i ∨ keyP isl i x) ↔ keyP isl (i + 1) x := by
  constructor
  · rintro (h | ⟨j, h1, h2⟩)
    · exact ⟨i, by omega, h.symm⟩
    · exact ⟨j, by omega, h2⟩
  · rintro ⟨j, h1, h2⟩
    by_cases hj : j = i
    · subst hj; exact Or.inl h2.symm
    · exact Or.inr ⟨j, by omega, h2⟩
theorem keyP_zero (isl : Nat → Int) (x : Int) : False ↔ keyP isl 0 x := ⟨fun h => h.elim, fun ⟨_, h, _⟩ => absurd h (Nat.not_lt_zero _)⟩

/-- The bounds of a box that is looked at. -/
def BoxOk (lo hi : Nat → Int) (n : Nat) : Prop := ∀ i, i < n → -1073741824 ≤ lo i ∧ lo i ≤ hi i ∧ hi i ≤ 1073741824
theorem BoxOk.miss {lo hi : Nat → Int} {n : Nat} (h : BoxOk lo hi n) (isl : Nat → Int) (k : Int) (i : Nat) (hi' : i ≤ n) (hn : i ≤ 40) : -42949672960 ≤ missF lo isl i k ∧ missF lo isl i k ≤ 42949672960 := by
  have h1 := ksum_bound isl lo k 1073741824 i (by decide) (fun j hj => by have := h j (by omega); omega)
  unfold missF
  omega
theorem BoxOk.room {lo hi : Nat → Int} {n : Nat} (h : BoxOk lo hi n) (isl : Nat → Int) (k : Int) (i : Nat) (hi' : i ≤ n) (hn : i ≤ 40) : -85899345920 ≤ roomF lo hi isl i k ∧ roomF lo hi isl i k ≤ 85899345920 := by
  have h1 := ksum_bound isl (fun i => hi i - lo i) k 2147483648 i (by decide) (fun j hj => by have := h j (by omega); omega)
  unfold roomF
  omega

/-- The blocks of Extreme at the head of its first loop. -/
structure ExAt (w W : World) (n : Nat) (lo hi isl : Nat → Int) (ta : Option Addr) (tc i : Nat) (wr : World) : Prop where
  ext : Ext w wr
  box : Arr wr w.heap.size 48 [.slice ta n tc]
  r1 : Arr wr (w.heap.size + 1) 55 zero3
  r2 : Arr wr (w.heap.size + 2) 55 zero3
  miss : IMap wr W.heap.size i (keyP isl i) (missF lo isl i)
  room : IMap wr (W.heap.size + 1) i (keyP isl i) (roomF lo hi isl i)

theorem ExAt.drew {w W : World} {n : Nat} {lo hi isl : Nat → Int} {ta : Option Addr} {tc i : Nat} {wr : World} (h : ExAt w W n lo hi isl ta tc i wr) : ExAt w W n lo hi isl ta tc i wr.drew :=
  ⟨h.ext.drew, h.box, h.r1, h.r2, h.miss.same rfl, h.room.same rfl⟩

/-- What Extreme returns where there is an answer. -/
def ExRes (w : World) (p q : Rat) (e : Ending) (w' : World) : Prop :=
  ∃ r1 r2 : RVal, e = .returned (.tuple #[.agg #[.bool r1.s, .slice r1.a r1.k r1.c, .slice r1.b r1.j r1.d], .agg #[.bool r2.s, .slice r2.a r2.k r2.c, .slice r2.b r2.j r2.d], .bool true]) ∧ IsCan w' r1 p w.heap.size ∧ IsCan w' r2 q w.heap.size ∧ Ext w w'

end Go.Proofs.YtgihpfkjpfanmaaGreat


namespace Go.Proofs.YtgihpfkjpfanmaaGreat
open Go.RowKit Go.Sort Go.Shelf

/-- maps.Clone. -/
theorem mclone (w : World) (b n : Nat) (K : Int → Prop) (f : Int → Int) (h : IMap w b n K f) :
    Calls Tryz.prog 71 #[.map (some b)] w fun e w' => ∃ b', e = .returned (.map (some b')) ∧ w.heap.size ≤ b' ∧ b' < w'.heap.size ∧ IMap w' b' n K f ∧ Ext w w' := by
  obtain ⟨D, ⟨es, clock, hb, F, hs, hD⟩, h2⟩ := h
  have hc := AnyW.maps_Clone Tryz.cloneL b es clock w hb
  change Calls Tryz.prog 71 _ _ _ at hc
  refine hc.mono ?_
  rintro e w' ⟨he, rfl⟩
  exact ⟨w.heap.size, he, Nat.le_refl _, by simp, ⟨D, ⟨es, clock, (MapKept.heap_alloc w _).1, F, hs, hD⟩, h2⟩, (Ext.refl _).alloc _⟩

theorem turn_putRow {α : Type} [Inhabited α] (enc : α → Value) (w : World) (blk off m : Nat) (d : Array α) : Turn blk w (putRow enc (Sort.ahead w m) blk off d) := by
  refine ⟨rfl, rfl, rfl, Nat.le_add_right _ _, ?_, fun k hk => ?_⟩
  · rw [size_putRow]; rfl
  · unfold putRow mapBlock
    simp [Array.getElem?_modify, Ne.symm hk, Sort.ahead]

/-- The numbers os lie in the block, and none is frozen. -/
def HoldsN (w : World) (blk : Nat) (os : List Nat) : Prop := ∀ j (hj : j < os.length), w.cell? ⟨blk, j, none⟩ = some (.int .i64 (os[j] : Nat)) ∧ w.frozen? ⟨blk, j, none⟩ = false
theorem HoldsN.same {w w' : World} {blk : Nat} {os : List Nat} (h : HoldsN w blk os) (e : w'.heap[blk]? = w.heap[blk]?) : HoldsN w' blk os := by
  intro j hj
  have := h j hj
  unfold World.cell? World.frozen? at *
  rw [e]; exact this

/-- slices.Reverse. -/
theorem srev (w : World) (blk n c : Nat) (os : List Nat) (hn : os.length = n) (hl : n ≤ 1000000) (hc : HoldsN w blk os) :
    Calls Tryz.prog 72 #[.slice (some ⟨blk, 0, none⟩) n c] w fun e w' => e = .returned (.tuple #[]) ∧ (∀ j (hj : j < os.reverse.length), w'.cell? ⟨blk, j, none⟩ = some (.int .i64 (os.reverse[j] : Nat))) ∧ Turn blk w w' := by
  have hH : Holds (fun i : Nat => Value.int .i64 (i : Int)) w blk 0 os.toArray := by
    intro j hj
    have hj' : j < os.length := by simpa using hj
    rw [Nat.zero_add, getElem!_pos _ j hj]
    simpa using hc j hj'
  have hS := AnyE.slices_Reverse Tryz.revL (fun i : Nat => Value.int .i64 (i : Int)) (fun _ => rfl) blk 0 c os w hH (by omega)
  change Calls Tryz.prog 72 _ _ _ at hS
  rw [hn] at hS
  refine hS.mono ?_
  rintro e w' ⟨he, m, rfl⟩
  refine ⟨he, fun j hj => ?_, turn_putRow _ _ _ _ _ _⟩
  have h5 := (holds_putRow (fun i : Nat => Value.int .i64 (i : Int)) (Sort.ahead w m) blk 0 os.toArray os.reverse.toArray (holds_ahead _ w m blk 0 os.toArray hH) (by simp)) j (by simpa using hj)
  have h6 := h5.1
  rw [Nat.zero_add, getElem!_pos _ j (by simpa using hj)] at h6
  simpa using h6

/-- What the sorting leaves. -/
structure SortOk (w : World) (blk : Nat) (qs : List Rat) (n : Nat) (w' : World) : Prop where
  holds : HoldsN w' blk (scOrder qs n)
  but : ExtBut blk w w'

theorem Sorted.but {fs : List Rat} {n blk : Nat} {w w' : World} (h : Sorted fs n blk w w') : ExtBut blk w w' := ⟨h.os, h.tape, h.output, h.drawn, h.size, h.agree⟩

theorem sc_sort_all (w : World) (pb blk n c : Nat) (qs : List Rat) (hn2 : n < 1000000) (hcl : ∀ V, Agree blk w V → ∀ x y : Nat, x < n → y < n → Calls Tryz.prog 66 #[.int .i64 (x : Nat), .int .i64 (y : Nat), .pointer (some ⟨pb, 0, none⟩)] V fun e w' => e = .returned (.int .i64 (apCmp (negs qs) x y)) ∧ Ext V w')
    (hO : ∀ j, j < n → w.cell? ⟨blk, j, none⟩ = some (.int .i64 (j : Nat)) ∧ w.frozen? ⟨blk, j, none⟩ = false) :
    Calls Tryz.prog 65 #[.slice (some ⟨blk, 0, none⟩) n c, .func (.func 66) #[] #[.pointer (some ⟨pb, 0, none⟩)]] w fun e w' => e = .returned (.tuple #[]) ∧ SortOk w blk qs n w' := by
  by_cases h0 : 0 < n
  · refine (sc_sort w pb blk n c (negs qs) h0 hn2 hcl hO).mono ?_
    rintro e w' ⟨he, hs, hf⟩
    refine ⟨he, fun j hj => ?_, hs.but⟩
    rw [scOrder_length] at hj
    rw [scOrder_get _ _ _ hj]
    exact ⟨hs.cell j hj, hf j hj⟩
  · obtain rfl : n = 0 := by omega
    have hS := AnyF.slices_SortFunc_none Tryz.sortL0 (some ⟨blk, 0, none⟩) c (.func (.func 66) #[] #[.pointer (some ⟨pb, 0, none⟩)]) w
    change Calls Tryz.prog 65 _ _ _ at hS
    refine hS.mono ?_
    rintro e w' ⟨he, rfl⟩
    exact ⟨he, fun j hj => absurd hj (by rw [scOrder_length]; omega), ExtBut.refl _ _⟩

theorem ExtBut.arr {b g : Nat} {w w' : World} (h : ExtBut b w w') {T : TypeId} {vs : List Value} (hg : g ≠ b) (hA : Arr w g T vs) : Arr w' g T vs := by
  unfold Arr; rw [h.block g hA.lt hg]; exact hA
theorem IMap.but {w w' : World} {b g n : Nat} {K : Int → Prop} {f : Int → Int} (h : IMap w b n K f) (t : ExtBut g w w') (hg : b ≠ g) : IMap w' b n K f := h.same (t.block b h.lt hg)
theorem ExtBut.cell {b : Nat} {w w' : World} (t : ExtBut b w w') {p : Addr} {v : Value} (hp : p.block ≠ b) (h : w.cell? p = some v) : w'.cell? p = some v := by
  have := block_lt h
  unfold World.cell? at *
  rw [t.block _ this hp]; exact h
theorem ExtBut.raw {b : Nat} {w w' : World} (t : ExtBut b w w') {a : Option Addr} {k c n : Nat} (h : Raw w a k c n) (ha : ∀ x, a = some x → x.block ≠ b) : Raw w' a k c n := by
  obtain ⟨l, h1, h2, h3⟩ := h
  exact ⟨l, h1, h2, h3.le, h3.cap, h3.short, h3.nul, h3.small, fun i hi => by
    obtain ⟨b', o, e, hc⟩ := h3.cell i hi
    exact ⟨b', o, e, t.cell (p := ⟨b', o + i, none⟩) (show b' ≠ b from ha ⟨b', o, none⟩ e) hc⟩⟩
theorem IsCan.but {b : Nat} {w w' : World} {r : RVal} {q : Rat} {B : Nat} (h : IsCan w r q B) (t : ExtBut b w w') (hb : b < B) : IsCan w' r q B :=
  ⟨h.s, h.k, h.j, t.raw h.num (h.fa.ne hb), t.raw h.den (h.fb.ne hb), h.fa, h.fb⟩
/-- What lay in the world when the call began stays. -/
theorem ExtBut.old {b : Nat} {w0 w w' : World} (t : ExtBut b w w') (h : Keeps w0 w) (hb : w0.heap.size ≤ b) : Keeps w0 w' := fun p v e => t.cell (by have := block_lt e; omega) (h p v e)
theorem Agree.old {b : Nat} {w0 w w' : World} (t : Agree b w w') (h : Keeps w0 w) (hb : w0.heap.size ≤ b) : Keeps w0 w' := fun p v e => t.cell (by have := block_lt e; omega) (h p v e)

/-- The numbers of a block of the call's own, as a slice. -/
theorem intIn_own (w : World) (blk n : Nat) (os : List Nat) (hn : os.length = n) (hs : n ≤ 1000000) (ho : ∀ i ∈ os, i < n) (hc : ∀ j (hj : j < os.length), w.cell? ⟨blk, j, none⟩ = some (.int .i64 (os[j] : Nat))) : IntIn w (some ⟨blk, 0, none⟩) n (os.map fun (i : Nat) => (i : Int)) := by
  refine ⟨by rw [List.length_map]; omega, by omega, fun i hi => ⟨blk, 0, rfl, ?_⟩, fun i hi => ?_⟩
  · rw [List.length_map] at hi
    rw [Nat.zero_add, List.getElem_map]; exact hc i hi
  · rw [List.length_map] at hi
    rw [List.getElem_map]
    have := ho os[i] (List.getElem_mem hi)
    omega

theorem Arr.drewn {w : World} {b : Nat} {T : TypeId} {vs : List Value} (h : Arr w b T vs) : Arr w.drew b T vs := h
theorem IsCan.same3 {w : World} {r : RVal} {q : Rat} {B : Nat} (h : IsCan w r q B) (b : Nat) (hb : b < B) {x y z : Value} : IsCan (((w.setCell ⟨b, 0, none⟩ x).setCell ⟨b, 1, none⟩ y).setCell ⟨b, 2, none⟩ z) r q B :=
  ((h.setCell ⟨b, 0, none⟩ _ hb).setCell ⟨b, 1, none⟩ _ hb).setCell ⟨b, 2, none⟩ _ hb
theorem Ext.set3' {w0 w : World} (h : Ext w0 w) {b : Nat} (hb : w0.heap.size ≤ b) {x y z : Value} : Ext w0 (((w.setCell ⟨b, 0, none⟩ x).setCell ⟨b, 1, none⟩ y).setCell ⟨b, 2, none⟩ z) :=
  ((h.setCell (p := ⟨b, 0, none⟩) hb _).setCell (p := ⟨b, 1, none⟩) hb _).setCell (p := ⟨b, 2, none⟩) hb _

/-- Extreme behind its checks. -/
structure OrAt (w W : World) (n : Nat) (ta : Option Addr) (tc : Nat) (K : Int → Prop) (fm : Int → Int) (bo : Nat) (l : List Int) (wr : World) : Prop where
  ext : Ext w wr
  box : Arr wr w.heap.size 48 [.slice ta n tc]
  r1 : Arr wr (w.heap.size + 1) 55 zero3
  r2 : Arr wr (w.heap.size + 2) 55 zero3
  miss : IMap wr W.heap.size n K fm
  ord : Arr wr bo 3 (i64s l)

/-- Extreme while it goes through the islands. -/
structure RgAt (w W : World) (r n : Nat) (ta : Option Addr) (tc : Nat) (K : Int → Prop) (fm fr : Int → Int) (left : Int → Prop) (cnt : Nat) (wr : World) : Prop where
  ext : Ext w wr
  box : Arr wr w.heap.size 48 [.slice ta n tc]
  r1 : Arr wr (w.heap.size + 1) 55 zero3
  r2 : Arr wr (w.heap.size + 2) 55 zero3
  rg : IRange wr W.heap.size r n K fm left cnt
  sub : ∀ k, left k → K k
  room : IMap wr (W.heap.size + 1) n K fr

end Go.Proofs.YtgihpfkjpfanmaaGreat
