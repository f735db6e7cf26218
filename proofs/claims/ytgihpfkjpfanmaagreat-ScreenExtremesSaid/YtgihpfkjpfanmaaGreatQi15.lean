/- Texts of the proof: Sc7. -/
import Derived.Test.YtgihpfkjpfanmaaGreatProg
import Derived.Shelf.SlSortCmp.NoneTotal
import Derived.Maps.RangeWalk
import Derived.Maps.OwnSet
import Derived.Maps.OwnOps
import Derived.Maps.Views
import Derived.Lib.MinMax
import Derived.Deep.DeepCutAuto
import Derived.Deep.CutBlock
import Derived.IntWalk
import Derived.Test.YtgihpfkjpfanmaaGreatRows
import Derived.Test.YtgihpfkjpfanmaaGreatChecked
import Derived.Lib.Strings
import Derived.Lib.Slices
import Derived.Lib.Small
import Derived.Lib.Walk
import Derived.Lib.BitFns
import Derived.Laws.AppendOwnNone
import Derived.Deep.LoopGhost
import Derived.KernelRfl
import Derived.WalkKit
import Derived.WalkSpells
import Derived.Sort.Grow
import Derived.Lib.Hide
import Derived.Laws.CopyOwn
import Derived.Laws.BitsAllLaws
import Derived.Deep.QuietTactic
import Derived.BigQuiet
import Derived.WalkLawsBesides
import Derived.Deep.RegionWith
import Derived.Deep.RegionHeld3
import Derived.Deep.Slices
import Derived.ProofKit
import Derived.OpenShut
import Derived.ShutString
import Derived.ChangeOld
import Derived.Below
import Derived.Deep.RegionHeld
import Derived.Shelf.SlMaps.Clone
import Derived.Shelf.SlicesE.Reverse
import Derived.Test.YtgihpfkjpfanmaaGreatQi1
import Derived.Test.YtgihpfkjpfanmaaGreatQi2
import Derived.Test.YtgihpfkjpfanmaaGreatQi3
import Derived.Test.YtgihpfkjpfanmaaGreatQi4
import Derived.Test.YtgihpfkjpfanmaaGreatQi5
import Derived.Test.YtgihpfkjpfanmaaGreatQi6
import Derived.Test.YtgihpfkjpfanmaaGreatQi7
import Derived.Test.YtgihpfkjpfanmaaGreatQi8
import Derived.Test.YtgihpfkjpfanmaaGreatQi9
import Derived.Test.YtgihpfkjpfanmaaGreatQi10
import Derived.Test.YtgihpfkjpfanmaaGreatQi11
import Derived.Test.YtgihpfkjpfanmaaGreatQi12
import Derived.Test.YtgihpfkjpfanmaaGreatQi13
import Derived.Test.YtgihpfkjpfanmaaGreatQi14
namespace Go.Proofs.YtgihpfkjpfanmaaGreat
open Go.RowKit Go.Sort

set_option maxHeartbeats 8000000 in
set_option maxRecDepth 100000 in
theorem sc_extreme_ok (w : World) (ta la ha ia : Option Addr) (tc lc hc ic L n : Nat) (rs : List RVal) (qs : List Rat) (lo hi isl : List Int)
    (hR : Rats w ta tc rs qs L) (hlo : IntIn w la lc lo) (hhi : IntIn w ha hc hi) (hil : IntIn w ia ic isl)
    (n1 : rs.length = n) (n2 : lo.length = n) (n3 : hi.length = n) (n4 : isl.length = n) (hn : n ≤ 32) (hL : L ≤ 1000) (hbox : BoxOk (at0 lo) (at0 hi) n)
    (hg : ∀ k, keyP (at0 isl) n k → 0 ≤ missF (at0 lo) (at0 isl) n k ∧ missF (at0 lo) (at0 isl) n k ≤ roomF (at0 lo) (at0 hi) (at0 isl) n k) :
    Calls Tryz.prog 25 #[.slice ta n tc, .slice la n lc, .slice ha n hc, .slice ia n ic] w fun e w' => ExRes w (fillSum (atQ qs) (at0 lo) (at0 hi) (at0 isl) (scOrder qs n) (missF (at0 lo) (at0 isl) n)) (fillSum (atQ qs) (at0 lo) (at0 hi) (at0 isl) (scOrder qs n).reverse (missF (at0 lo) (at0 isl) n)) e w' := by
  obtain ⟨P, hP⟩ : ∃ P, P = fillSum (atQ qs) (at0 lo) (at0 hi) (at0 isl) (scOrder qs n) (missF (at0 lo) (at0 isl) n) := ⟨_, rfl⟩
  obtain ⟨Q, hQ⟩ : ∃ Q, Q = fillSum (atQ qs) (at0 lo) (at0 hi) (at0 isl) (scOrder qs n).reverse (missF (at0 lo) (at0 isl) n) := ⟨_, rfl⟩
  rw [← hP, ← hQ]
  have HP := Lib.hid hP; have HQ := Lib.hid hQ
  clear hP hQ
  have hRle := hR.le; have hRcap := hR.cap; have hl1 := hlo.le; have hl2 := hlo.cap; have hh1 := hhi.le; have hh2 := hhi.cap; have hi1 := hil.le; have hi2 := hil.cap
  have HR := Lib.hid hR; have HLO := Lib.hid hlo; have HHI := Lib.hid hhi; have HIL := Lib.hid hil; have HBOX := Lib.hid hbox; have HG := Lib.hid hg
  clear hR hlo hhi hil hbox hg
  have hmm := @run_makeMap Tryz.prog
  have u1 : decide ((32 : Int) < (n : Int)) = false := by simp; omega
  have u2 : ((n : Int) != (n : Int)) = false := by simp
  go_enter Tryz.func25, Tryz.ntmps25
  go_upto_region 1 with fail
  obtain ⟨W, hW, x0, Z0, A0, A1, A2⟩ := boxes3 w 48 [.slice ta n tc] 55 zero3 55 zero3
  rw [show (World.alloc (World.alloc (World.alloc w (Obj.cells #[Value.slice ta n tc] 48)) (Obj.cells #[Value.bool false, Value.slice none 0 0, Value.slice none 0 0] 55)) (Obj.cells #[Value.bool false, Value.slice none 0 0, Value.slice none 0 0] 55)) = W from hW.symm]
  clear hW
  have kb := A0.cell 0
  simp at kb
  go_upto_region 5 with fail
  have hMs : IMap (W.alloc (.map #[] 0)) W.heap.size 0 (fun _ => False) (fun _ => 0) := IMap.made W
  have y1 : Ext W (W.alloc (.map #[] 0)) := (Ext.refl _).alloc _
  have hRm : IMap ((W.alloc (.map #[] 0)).alloc (.map #[] 0)) (W.heap.size + 1) 0 (fun _ => False) (fun _ => 0) := by
    have := IMap.made (W.alloc (.map #[] 0))
    rwa [show (W.alloc (.map #[] 0)).heap.size = W.heap.size + 1 from by simp] at this
  have y2 : Ext (W.alloc (.map #[] 0)) ((W.alloc (.map #[] 0)).alloc (.map #[] 0)) := (Ext.refl _).alloc _
  have SI : Hid (ExAt w W n (at0 lo) (at0 hi) (at0 isl) ta tc 0 ((W.alloc (.map #[] 0)).alloc (.map #[] 0))) :=
    ⟨x0.trans (y1.trans y2), A0.ext (y1.trans y2), A1.ext (y1.trans y2), A2.ext (y1.trans y2), (hMs.ext y2).keys (keyP_zero _) (fun k => (missF_zero _ _ k).symm), hRm.keys (keyP_zero _) (fun k => (roomF_zero _ _ _ k).symm)⟩
  generalize (W.alloc (.map #[] 0)).alloc (.map #[] 0) = W2 at *
  clear hMs y1 hRm y2 A0 A1 A2 kb hmm
  have hz : w.heap.size + 2 < W.heap.size := by have := Z0.out; omega
  go_wp2_with fail
  go_loopw [46] (fun ii wr => ∃ i : Nat, i ≤ n ∧ ExAt w W n (at0 lo) (at0 hi) (at0 isl) ta tc i wr ∧ ii = .int .i64 i) (fun ii _ => n - (intOf ii).toNat)
  case atStart => exact ⟨0, Nat.zero_le _, SI.out, rfl⟩
  case round =>
    obtain ⟨i, hi0, hAt, rfl⟩ := hrel
    clear SI
    by_cases hlt : i < n
    · have hE := hAt.ext
      obtain ⟨bl, ol, rfl, cL⟩ := (HLO.out.ext hE).cell i (by omega)
      obtain ⟨bh, oh, rfl, cH⟩ := (HHI.out.ext hE).cell i (by omega)
      obtain ⟨bi, oi, rfl, cI⟩ := (HIL.out.ext hE).cell i (by omega)
      have hkk := HIL.out.rng i (by omega)
      have zl : bl < w.heap.size := by obtain ⟨b', o', e', c'⟩ := HLO.out.cell i (by omega); cases e'; exact block_lt c'
      have zh : bh < w.heap.size := by obtain ⟨b', o', e', c'⟩ := HHI.out.cell i (by omega); cases e'; exact block_lt c'
      have zi : bi < w.heap.size := by obtain ⟨b', o', e', c'⟩ := HIL.out.cell i (by omega); cases e'; exact block_lt c'
      obtain ⟨hB1, hB2, hB3⟩ := HBOX.out i hlt
      have hm1 := HBOX.out.miss (at0 isl) (at0 isl i) i (by omega) (by omega)
      have hm2 := HBOX.out.room (at0 isl) (at0 isl i) i (by omega) (by omega)
      have eA : at0 lo i = lo[i] := at0_eq (by omega)
      have eB : at0 hi i = hi[i] := at0_eq (by omega)
      have eC : at0 isl i = isl[i] := at0_eq (by omega)
      have hms : ∀ x, upd (missF (at0 lo) (at0 isl) i) (at0 isl i) (missF (at0 lo) (at0 isl) i (at0 isl i) - at0 lo i) x = missF (at0 lo) (at0 isl) (i + 1) x := missF_succ _ _ i
      have hrm : ∀ x, upd (roomF (at0 lo) (at0 hi) (at0 isl) i) (at0 isl i) (roomF (at0 lo) (at0 hi) (at0 isl) i (at0 isl i) + (at0 hi i - at0 lo i)) x = roomF (at0 lo) (at0 hi) (at0 isl) (i + 1) x := roomF_succ _ _ _ i
      have hks : ∀ x, (x = at0 isl i ∨ keyP (at0 isl) i x) ↔ keyP (at0 isl) (i + 1) x := keyP_succ _ i
      have hMm := hAt.miss
      have hMr := hAt.room
      rw [← eA] at cL; rw [← eB] at cH; rw [← eC] at cI hkk
      have HAT := Lib.hid hAt
      clear hAt hE eA eB eC
      generalize missF (at0 lo) (at0 isl) i = fm at *
      generalize roomF (at0 lo) (at0 hi) (at0 isl) i = fr at *
      generalize at0 lo i = l at *
      generalize at0 hi i = h at *
      generalize at0 isl i = k at *
      have hk64 : isI64 k := hkk
      have t1 : decide (l < (-1073741824 : Int)) = false := by simp; omega
      have t2 : decide ((1073741824 : Int) < l) = false := by simp; omega
      have t3 : decide (h < (-1073741824 : Int)) = false := by simp; omega
      have t4 : decide ((1073741824 : Int) < h) = false := by simp; omega
      have t5 : decide (h < l) = false := by simp; omega
      have hw1 : IntKind.i64.wrap (fm k - l) = fm k - l := by rw [IntKind.wrap_i64]; omega
      have hw2 : IntKind.i64.wrap (h - l) = h - l := by rw [IntKind.wrap_i64]; omega
      have hw3 : IntKind.i64.wrap (fr k + (h - l)) = fr k + (h - l) := by rw [IntKind.wrap_i64]; omega
      have HMS := Lib.hid hms; have HRM := Lib.hid hrm; have HKS := Lib.hid hks; have HMM := Lib.hid hMm; have HMR := Lib.hid hMr
      have bi0 : (0 : Int) ≤ (i : Int) := by omega
      have bi1 : (i : Int) < (n : Int) := by omega
      clear hms hrm hks hMm hMr
      go_wp2_with fail
      refine wp_region_Z (S := fun w' => w'.cell? ⟨bl, ol + i, none⟩ = some (.int .i64 l) ∧ w'.cell? ⟨bh, oh + i, none⟩ = some (.int .i64 h)) (fun i => false) (by kernel_rfl) (⟨cL, cH⟩) (fun hHeld => ?_)
      refine wpAnyZ_take (i := 0) (v := .slice (some ⟨bl, ol, none⟩) n lc) rfl (by kernel_rfl) (by kernel_rfl) (by kernel_rfl) (by kernel_rfl) (fun _ _ _ h => h) (Or.inl ⟨by rfl, fun w hSw => by (obtain ⟨e0, e1⟩ := hSw; go_simp)⟩) hHeld ?_
      try simp only [List.getElem_toArray, List.getElem_cons_zero, Act.put, List.setIfInBounds_toArray, List.set_cons_zero, List.set_cons_succ]
      refine wpAnyZ_take (i := 1) (v := .int .i64 (i : Int)) rfl (by kernel_rfl) (by kernel_rfl) (by kernel_rfl) (by kernel_rfl) (fun _ _ _ h => h) (Or.inl ⟨by rfl, fun w hSw => by (obtain ⟨e0, e1⟩ := hSw; go_simp)⟩) hHeld ?_
      try simp only [List.getElem_toArray, List.getElem_cons_succ, List.getElem_cons_zero, Act.put, List.setIfInBounds_toArray, List.set_cons_zero, List.set_cons_succ]
      refine wpAnyZ_take (i := 2) (v := .pointer (some ⟨bl, ol + i, none⟩)) rfl (by kernel_rfl) (by kernel_rfl) (by kernel_rfl) (by kernel_rfl) (fun _ _ _ h => h) (Or.inl ⟨by rfl, fun w hSw => by (obtain ⟨e0, e1⟩ := hSw; go_simp)⟩) hHeld ?_
      try simp only [List.getElem_toArray, List.getElem_cons_succ, List.getElem_cons_zero, Act.put, List.setIfInBounds_toArray, List.set_cons_zero, List.set_cons_succ]
      refine wpAnyZ_take (i := 3) (v := .int .i64 l) rfl (by kernel_rfl) (by kernel_rfl) (by kernel_rfl) (by kernel_rfl) (fun _ _ _ h => h) (Or.inl ⟨by rfl, fun w hSw => by (obtain ⟨e0, e1⟩ := hSw; go_simp)⟩) hHeld ?_
      try simp only [List.getElem_toArray, List.getElem_cons_succ, List.getElem_cons_zero, Act.put, List.setIfInBounds_toArray, List.set_cons_zero, List.set_cons_succ]
      refine wpAnyZ_take (i := 4) (v := .bool false) rfl (by kernel_rfl) (by kernel_rfl) (by kernel_rfl) (by kernel_rfl) (fun _ _ _ h => h) (Or.inl ⟨by rfl, fun w hSw => by (obtain ⟨e0, e1⟩ := hSw; go_simp)⟩) hHeld ?_
      try simp only [List.getElem_toArray, List.getElem_cons_succ, List.getElem_cons_zero, Act.put, List.setIfInBounds_toArray, List.set_cons_zero, List.set_cons_succ]
      refine wpAnyZ_take (i := 5) (v := .bool false) rfl (by kernel_rfl) (by kernel_rfl) (by kernel_rfl) (by kernel_rfl) (fun _ _ _ h => h) (Or.inl ⟨by rfl, fun w hSw => by (obtain ⟨e0, e1⟩ := hSw; go_simp)⟩) hHeld ?_
      try simp only [List.getElem_toArray, List.getElem_cons_succ, List.getElem_cons_zero, Act.put, List.setIfInBounds_toArray, List.set_cons_zero, List.set_cons_succ]
      refine wpAnyZ_take (i := 6) (v := .slice (some ⟨bl, ol, none⟩) n lc) rfl (by kernel_rfl) (by kernel_rfl) (by kernel_rfl) (by kernel_rfl) (fun _ _ _ h => h) (Or.inl ⟨by rfl, fun w hSw => by (obtain ⟨e0, e1⟩ := hSw; go_simp)⟩) hHeld ?_
      try simp only [List.getElem_toArray, List.getElem_cons_succ, List.getElem_cons_zero, Act.put, List.setIfInBounds_toArray, List.set_cons_zero, List.set_cons_succ]
      refine wpAnyZ_take (i := 7) (v := .int .i64 (i : Int)) rfl (by kernel_rfl) (by kernel_rfl) (by kernel_rfl) (by kernel_rfl) (fun _ _ _ h => h) (Or.inl ⟨by rfl, fun w hSw => by (obtain ⟨e0, e1⟩ := hSw; go_simp)⟩) hHeld ?_
      try simp only [List.getElem_toArray, List.getElem_cons_succ, List.getElem_cons_zero, Act.put, List.setIfInBounds_toArray, List.set_cons_zero, List.set_cons_succ]
      refine wpAnyZ_take (i := 8) (v := .pointer (some ⟨bl, ol + i, none⟩)) rfl (by kernel_rfl) (by kernel_rfl) (by kernel_rfl) (by kernel_rfl) (fun _ _ _ h => h) (Or.inl ⟨by rfl, fun w hSw => by (obtain ⟨e0, e1⟩ := hSw; go_simp)⟩) hHeld ?_
      try simp only [List.getElem_toArray, List.getElem_cons_succ, List.getElem_cons_zero, Act.put, List.setIfInBounds_toArray, List.set_cons_zero, List.set_cons_succ]
      refine wpAnyZ_take (i := 9) (v := .int .i64 l) rfl (by kernel_rfl) (by kernel_rfl) (by kernel_rfl) (by kernel_rfl) (fun _ _ _ h => h) (Or.inl ⟨by rfl, fun w hSw => by (obtain ⟨e0, e1⟩ := hSw; go_simp)⟩) hHeld ?_
      try simp only [List.getElem_toArray, List.getElem_cons_succ, List.getElem_cons_zero, Act.put, List.setIfInBounds_toArray, List.set_cons_zero, List.set_cons_succ]
      refine wpAnyZ_take (i := 10) (v := .bool false) rfl (by kernel_rfl) (by kernel_rfl) (by kernel_rfl) (by kernel_rfl) (fun _ _ _ h => h) (Or.inl ⟨by rfl, fun w hSw => by (obtain ⟨e0, e1⟩ := hSw; go_simp)⟩) hHeld ?_
      try simp only [List.getElem_toArray, List.getElem_cons_succ, List.getElem_cons_zero, Act.put, List.setIfInBounds_toArray, List.set_cons_zero, List.set_cons_succ]
      refine wpAnyZ_take (i := 11) (v := .bool false) rfl (by kernel_rfl) (by kernel_rfl) (by kernel_rfl) (by kernel_rfl) (fun _ _ _ h => h) (Or.inl ⟨by rfl, fun w hSw => by (obtain ⟨e0, e1⟩ := hSw; go_simp)⟩) hHeld ?_
      try simp only [List.getElem_toArray, List.getElem_cons_succ, List.getElem_cons_zero, Act.put, List.setIfInBounds_toArray, List.set_cons_zero, List.set_cons_succ]
      refine wpAnyZ_take (i := 12) (v := .bool false) rfl (by kernel_rfl) (by kernel_rfl) (by kernel_rfl) (by kernel_rfl) (fun _ _ _ h => h) (Or.inl ⟨by rfl, fun w hSw => by (obtain ⟨e0, e1⟩ := hSw; go_simp)⟩) hHeld ?_
      try simp only [List.getElem_toArray, List.getElem_cons_succ, List.getElem_cons_zero, Act.put, List.setIfInBounds_toArray, List.set_cons_zero, List.set_cons_succ]
      refine wpAnyZ_take (i := 13) (v := .slice (some ⟨bh, oh, none⟩) n hc) rfl (by kernel_rfl) (by kernel_rfl) (by kernel_rfl) (by kernel_rfl) (fun _ _ _ h => h) (Or.inl ⟨by rfl, fun w hSw => by (obtain ⟨e0, e1⟩ := hSw; go_simp)⟩) hHeld ?_
      try simp only [List.getElem_toArray, List.getElem_cons_succ, List.getElem_cons_zero, Act.put, List.setIfInBounds_toArray, List.set_cons_zero, List.set_cons_succ]
      refine wpAnyZ_take (i := 14) (v := .int .i64 (i : Int)) rfl (by kernel_rfl) (by kernel_rfl) (by kernel_rfl) (by kernel_rfl) (fun _ _ _ h => h) (Or.inl ⟨by rfl, fun w hSw => by (obtain ⟨e0, e1⟩ := hSw; go_simp)⟩) hHeld ?_
      try simp only [List.getElem_toArray, List.getElem_cons_succ, List.getElem_cons_zero, Act.put, List.setIfInBounds_toArray, List.set_cons_zero, List.set_cons_succ]
      refine wpAnyZ_take (i := 15) (v := .pointer (some ⟨bh, oh + i, none⟩)) rfl (by kernel_rfl) (by kernel_rfl) (by kernel_rfl) (by kernel_rfl) (fun _ _ _ h => h) (Or.inl ⟨by rfl, fun w hSw => by (obtain ⟨e0, e1⟩ := hSw; go_simp)⟩) hHeld ?_
      try simp only [List.getElem_toArray, List.getElem_cons_succ, List.getElem_cons_zero, Act.put, List.setIfInBounds_toArray, List.set_cons_zero, List.set_cons_succ]
      refine wpAnyZ_take (i := 16) (v := .int .i64 h) rfl (by kernel_rfl) (by kernel_rfl) (by kernel_rfl) (by kernel_rfl) (fun _ _ _ h => h) (Or.inl ⟨by rfl, fun w hSw => by (obtain ⟨e0, e1⟩ := hSw; go_simp)⟩) hHeld ?_
      try simp only [List.getElem_toArray, List.getElem_cons_succ, List.getElem_cons_zero, Act.put, List.setIfInBounds_toArray, List.set_cons_zero, List.set_cons_succ]
      refine wpAnyZ_take (i := 17) (v := .bool false) rfl (by kernel_rfl) (by kernel_rfl) (by kernel_rfl) (by kernel_rfl) (fun _ _ _ h => h) (Or.inl ⟨by rfl, fun w hSw => by (obtain ⟨e0, e1⟩ := hSw; go_simp)⟩) hHeld ?_
      try simp only [List.getElem_toArray, List.getElem_cons_succ, List.getElem_cons_zero, Act.put, List.setIfInBounds_toArray, List.set_cons_zero, List.set_cons_succ]
      refine wpAnyZ_take (i := 18) (v := .bool false) rfl (by kernel_rfl) (by kernel_rfl) (by kernel_rfl) (by kernel_rfl) (fun _ _ _ h => h) (Or.inl ⟨by rfl, fun w hSw => by (obtain ⟨e0, e1⟩ := hSw; go_simp)⟩) hHeld ?_
      try simp only [List.getElem_toArray, List.getElem_cons_succ, List.getElem_cons_zero, Act.put, List.setIfInBounds_toArray, List.set_cons_zero, List.set_cons_succ]
      refine wpAnyZ_take (i := 19) (v := .bool false) rfl (by kernel_rfl) (by kernel_rfl) (by kernel_rfl) (by kernel_rfl) (fun _ _ _ h => h) (Or.inl ⟨by rfl, fun w hSw => by (obtain ⟨e0, e1⟩ := hSw; go_simp)⟩) hHeld ?_
      try simp only [List.getElem_toArray, List.getElem_cons_succ, List.getElem_cons_zero, Act.put, List.setIfInBounds_toArray, List.set_cons_zero, List.set_cons_succ]
      refine wpAnyZ_take (i := 20) (v := .slice (some ⟨bh, oh, none⟩) n hc) rfl (by kernel_rfl) (by kernel_rfl) (by kernel_rfl) (by kernel_rfl) (fun _ _ _ h => h) (Or.inl ⟨by rfl, fun w hSw => by (obtain ⟨e0, e1⟩ := hSw; go_simp)⟩) hHeld ?_
      try simp only [List.getElem_toArray, List.getElem_cons_succ, List.getElem_cons_zero, Act.put, List.setIfInBounds_toArray, List.set_cons_zero, List.set_cons_succ]
      refine wpAnyZ_take (i := 21) (v := .int .i64 (i : Int)) rfl (by kernel_rfl) (by kernel_rfl) (by kernel_rfl) (by kernel_rfl) (fun _ _ _ h => h) (Or.inl ⟨by rfl, fun w hSw => by (obtain ⟨e0, e1⟩ := hSw; go_simp)⟩) hHeld ?_
      try simp only [List.getElem_toArray, List.getElem_cons_succ, List.getElem_cons_zero, Act.put, List.setIfInBounds_toArray, List.set_cons_zero, List.set_cons_succ]
      refine wpAnyZ_take (i := 22) (v := .pointer (some ⟨bh, oh + i, none⟩)) rfl (by kernel_rfl) (by kernel_rfl) (by kernel_rfl) (by kernel_rfl) (fun _ _ _ h => h) (Or.inl ⟨by rfl, fun w hSw => by (obtain ⟨e0, e1⟩ := hSw; go_simp)⟩) hHeld ?_
      try simp only [List.getElem_toArray, List.getElem_cons_succ, List.getElem_cons_zero, Act.put, List.setIfInBounds_toArray, List.set_cons_zero, List.set_cons_succ]
      refine wpAnyZ_take (i := 23) (v := .int .i64 h) rfl (by kernel_rfl) (by kernel_rfl) (by kernel_rfl) (by kernel_rfl) (fun _ _ _ h => h) (Or.inl ⟨by rfl, fun w hSw => by (obtain ⟨e0, e1⟩ := hSw; go_simp)⟩) hHeld ?_
      try simp only [List.getElem_toArray, List.getElem_cons_succ, List.getElem_cons_zero, Act.put, List.setIfInBounds_toArray, List.set_cons_zero, List.set_cons_succ]
      refine wpAnyZ_take (i := 24) (v := .bool false) rfl (by kernel_rfl) (by kernel_rfl) (by kernel_rfl) (by kernel_rfl) (fun _ _ _ h => h) (Or.inl ⟨by rfl, fun w hSw => by (obtain ⟨e0, e1⟩ := hSw; go_simp)⟩) hHeld ?_
      try simp only [List.getElem_toArray, List.getElem_cons_succ, List.getElem_cons_zero, Act.put, List.setIfInBounds_toArray, List.set_cons_zero, List.set_cons_succ]
      refine wpAnyZ_take (i := 25) (v := .bool false) rfl (by kernel_rfl) (by kernel_rfl) (by kernel_rfl) (by kernel_rfl) (fun _ _ _ h => h) (Or.inl ⟨by rfl, fun w hSw => by (obtain ⟨e0, e1⟩ := hSw; go_simp)⟩) hHeld ?_
      try simp only [List.getElem_toArray, List.getElem_cons_succ, List.getElem_cons_zero, Act.put, List.setIfInBounds_toArray, List.set_cons_zero, List.set_cons_succ]
      refine wpAnyZ_take (i := 26) (v := .bool false) rfl (by kernel_rfl) (by kernel_rfl) (by kernel_rfl) (by kernel_rfl) (fun _ _ _ h => h) (Or.inl ⟨by rfl, fun w hSw => by (obtain ⟨e0, e1⟩ := hSw; go_simp)⟩) hHeld ?_
      try simp only [List.getElem_toArray, List.getElem_cons_succ, List.getElem_cons_zero, Act.put, List.setIfInBounds_toArray, List.set_cons_zero, List.set_cons_succ]
      refine wpAnyZ_take (i := 27) (v := .slice (some ⟨bl, ol, none⟩) n lc) rfl (by kernel_rfl) (by kernel_rfl) (by kernel_rfl) (by kernel_rfl) (fun _ _ _ h => h) (Or.inl ⟨by rfl, fun w hSw => by (obtain ⟨e0, e1⟩ := hSw; go_simp)⟩) hHeld ?_
      try simp only [List.getElem_toArray, List.getElem_cons_succ, List.getElem_cons_zero, Act.put, List.setIfInBounds_toArray, List.set_cons_zero, List.set_cons_succ]
      refine wpAnyZ_take (i := 28) (v := .int .i64 (i : Int)) rfl (by kernel_rfl) (by kernel_rfl) (by kernel_rfl) (by kernel_rfl) (fun _ _ _ h => h) (Or.inl ⟨by rfl, fun w hSw => by (obtain ⟨e0, e1⟩ := hSw; go_simp)⟩) hHeld ?_
      try simp only [List.getElem_toArray, List.getElem_cons_succ, List.getElem_cons_zero, Act.put, List.setIfInBounds_toArray, List.set_cons_zero, List.set_cons_succ]
      refine wpAnyZ_take (i := 29) (v := .pointer (some ⟨bl, ol + i, none⟩)) rfl (by kernel_rfl) (by kernel_rfl) (by kernel_rfl) (by kernel_rfl) (fun _ _ _ h => h) (Or.inl ⟨by rfl, fun w hSw => by (obtain ⟨e0, e1⟩ := hSw; go_simp)⟩) hHeld ?_
      try simp only [List.getElem_toArray, List.getElem_cons_succ, List.getElem_cons_zero, Act.put, List.setIfInBounds_toArray, List.set_cons_zero, List.set_cons_succ]
      refine wpAnyZ_take (i := 30) (v := .int .i64 l) rfl (by kernel_rfl) (by kernel_rfl) (by kernel_rfl) (by kernel_rfl) (fun _ _ _ h => h) (Or.inl ⟨by rfl, fun w hSw => by (obtain ⟨e0, e1⟩ := hSw; go_simp)⟩) hHeld ?_
      try simp only [List.getElem_toArray, List.getElem_cons_succ, List.getElem_cons_zero, Act.put, List.setIfInBounds_toArray, List.set_cons_zero, List.set_cons_succ]
      refine wpAnyZ_take (i := 31) (v := .slice (some ⟨bh, oh, none⟩) n hc) rfl (by kernel_rfl) (by kernel_rfl) (by kernel_rfl) (by kernel_rfl) (fun _ _ _ h => h) (Or.inl ⟨by rfl, fun w hSw => by (obtain ⟨e0, e1⟩ := hSw; go_simp)⟩) hHeld ?_
      try simp only [List.getElem_toArray, List.getElem_cons_succ, List.getElem_cons_zero, Act.put, List.setIfInBounds_toArray, List.set_cons_zero, List.set_cons_succ]
      refine wpAnyZ_take (i := 32) (v := .int .i64 (i : Int)) rfl (by kernel_rfl) (by kernel_rfl) (by kernel_rfl) (by kernel_rfl) (fun _ _ _ h => h) (Or.inl ⟨by rfl, fun w hSw => by (obtain ⟨e0, e1⟩ := hSw; go_simp)⟩) hHeld ?_
      try simp only [List.getElem_toArray, List.getElem_cons_succ, List.getElem_cons_zero, Act.put, List.setIfInBounds_toArray, List.set_cons_zero, List.set_cons_succ]
      refine wpAnyZ_take (i := 33) (v := .pointer (some ⟨bh, oh + i, none⟩)) rfl (by kernel_rfl) (by kernel_rfl) (by kernel_rfl) (by kernel_rfl) (fun _ _ _ h => h) (Or.inl ⟨by rfl, fun w hSw => by (obtain ⟨e0, e1⟩ := hSw; go_simp)⟩) hHeld ?_
      try simp only [List.getElem_toArray, List.getElem_cons_succ, List.getElem_cons_zero, Act.put, List.setIfInBounds_toArray, List.set_cons_zero, List.set_cons_succ]
      refine wpAnyZ_take (i := 34) (v := .int .i64 h) rfl (by kernel_rfl) (by kernel_rfl) (by kernel_rfl) (by kernel_rfl) (fun _ _ _ h => h) (Or.inl ⟨by rfl, fun w hSw => by (obtain ⟨e0, e1⟩ := hSw; go_simp)⟩) hHeld ?_
      try simp only [List.getElem_toArray, List.getElem_cons_succ, List.getElem_cons_zero, Act.put, List.setIfInBounds_toArray, List.set_cons_zero, List.set_cons_succ]
      refine wpAnyZ_take (i := 35) (v := .bool false) rfl (by kernel_rfl) (by kernel_rfl) (by kernel_rfl) (by kernel_rfl) (fun _ _ _ h => h) (Or.inl ⟨by rfl, fun w hSw => by (obtain ⟨e0, e1⟩ := hSw; go_simp)⟩) hHeld ?_
      try simp only [List.getElem_toArray, List.getElem_cons_succ, List.getElem_cons_zero, Act.put, List.setIfInBounds_toArray, List.set_cons_zero, List.set_cons_succ]
      refine wpAnyZ_take (i := 36) (v := .bool false) rfl (by kernel_rfl) (by kernel_rfl) (by kernel_rfl) (by kernel_rfl) (fun _ _ _ h => h) (Or.inl ⟨by rfl, fun w hSw => by (obtain ⟨e0, e1⟩ := hSw; go_simp)⟩) hHeld ?_
      try simp only [List.getElem_toArray, List.getElem_cons_succ, List.getElem_cons_zero, Act.put, List.setIfInBounds_toArray, List.set_cons_zero, List.set_cons_succ]
      refine wpAnyZ_done (by kernel_rfl) ?_ _
      clear hHeld
      go_wp2_with fail
      refine wp_region_Z (S := fun w' => w'.cell? ⟨bl, ol + i, none⟩ = some (.int .i64 l) ∧ w'.cell? ⟨bi, oi + i, none⟩ = some (.int .i64 k) ∧ IMap w' W.heap.size i (keyP (at0 isl) i) fm) (fun i => i == 11) (by kernel_rfl) (⟨cL, cI, HMM.out.same rfl⟩) (fun hHeld => ?_)
      refine wpAnyZ_take (i := 0) (v := .map (some W.heap.size)) rfl (by kernel_rfl) (by kernel_rfl) (by kernel_rfl) (by kernel_rfl) (fun _ _ _ h => h) (Or.inl ⟨by rfl, fun w hSw => by (obtain ⟨e0, e1, e2⟩ := hSw; go_simp)⟩) hHeld ?_
      try simp only [List.getElem_toArray, List.getElem_cons_zero, Act.put, List.setIfInBounds_toArray, List.set_cons_zero, List.set_cons_succ]
      refine wpAnyZ_take (i := 1) (v := .slice (some ⟨bi, oi, none⟩) n ic) rfl (by kernel_rfl) (by kernel_rfl) (by kernel_rfl) (by kernel_rfl) (fun _ _ _ h => h) (Or.inl ⟨by rfl, fun w hSw => by (obtain ⟨e0, e1, e2⟩ := hSw; go_simp)⟩) hHeld ?_
      try simp only [List.getElem_toArray, List.getElem_cons_succ, List.getElem_cons_zero, Act.put, List.setIfInBounds_toArray, List.set_cons_zero, List.set_cons_succ]
      refine wpAnyZ_take (i := 2) (v := .int .i64 (i : Int)) rfl (by kernel_rfl) (by kernel_rfl) (by kernel_rfl) (by kernel_rfl) (fun _ _ _ h => h) (Or.inl ⟨by rfl, fun w hSw => by (obtain ⟨e0, e1, e2⟩ := hSw; go_simp)⟩) hHeld ?_
      try simp only [List.getElem_toArray, List.getElem_cons_succ, List.getElem_cons_zero, Act.put, List.setIfInBounds_toArray, List.set_cons_zero, List.set_cons_succ]
      refine wpAnyZ_take (i := 3) (v := .pointer (some ⟨bi, oi + i, none⟩)) rfl (by kernel_rfl) (by kernel_rfl) (by kernel_rfl) (by kernel_rfl) (fun _ _ _ h => h) (Or.inl ⟨by rfl, fun w hSw => by (obtain ⟨e0, e1, e2⟩ := hSw; go_simp)⟩) hHeld ?_
      try simp only [List.getElem_toArray, List.getElem_cons_succ, List.getElem_cons_zero, Act.put, List.setIfInBounds_toArray, List.set_cons_zero, List.set_cons_succ]
      refine wpAnyZ_take (i := 4) (v := .int .i64 k) rfl (by kernel_rfl) (by kernel_rfl) (by kernel_rfl) (by kernel_rfl) (fun _ _ _ h => h) (Or.inl ⟨by rfl, fun w hSw => by (obtain ⟨e0, e1, e2⟩ := hSw; go_simp)⟩) hHeld ?_
      try simp only [List.getElem_toArray, List.getElem_cons_succ, List.getElem_cons_zero, Act.put, List.setIfInBounds_toArray, List.set_cons_zero, List.set_cons_succ]
      refine wpAnyZ_take (i := 6) (v := .slice (some ⟨bl, ol, none⟩) n lc) rfl (by kernel_rfl) (by kernel_rfl) (by kernel_rfl) (by kernel_rfl) (fun _ _ _ h => h) (Or.inl ⟨by rfl, fun w hSw => by (obtain ⟨e0, e1, e2⟩ := hSw; go_simp)⟩) hHeld ?_
      try simp only [List.getElem_toArray, List.getElem_cons_succ, List.getElem_cons_zero, Act.put, List.setIfInBounds_toArray, List.set_cons_zero, List.set_cons_succ]
      refine wpAnyZ_take (i := 7) (v := .int .i64 (i : Int)) rfl (by kernel_rfl) (by kernel_rfl) (by kernel_rfl) (by kernel_rfl) (fun _ _ _ h => h) (Or.inl ⟨by rfl, fun w hSw => by (obtain ⟨e0, e1, e2⟩ := hSw; go_simp)⟩) hHeld ?_
      try simp only [List.getElem_toArray, List.getElem_cons_succ, List.getElem_cons_zero, Act.put, List.setIfInBounds_toArray, List.set_cons_zero, List.set_cons_succ]
      refine wpAnyZ_take (i := 8) (v := .pointer (some ⟨bl, ol + i, none⟩)) rfl (by kernel_rfl) (by kernel_rfl) (by kernel_rfl) (by kernel_rfl) (fun _ _ _ h => h) (Or.inl ⟨by rfl, fun w hSw => by (obtain ⟨e0, e1, e2⟩ := hSw; go_simp)⟩) hHeld ?_
      try simp only [List.getElem_toArray, List.getElem_cons_succ, List.getElem_cons_zero, Act.put, List.setIfInBounds_toArray, List.set_cons_zero, List.set_cons_succ]
      refine wpAnyZ_take (i := 9) (v := .int .i64 l) rfl (by kernel_rfl) (by kernel_rfl) (by kernel_rfl) (by kernel_rfl) (fun _ _ _ h => h) (Or.inl ⟨by rfl, fun w hSw => by (obtain ⟨e0, e1, e2⟩ := hSw; go_simp)⟩) hHeld ?_
      try simp only [List.getElem_toArray, List.getElem_cons_succ, List.getElem_cons_zero, Act.put, List.setIfInBounds_toArray, List.set_cons_zero, List.set_cons_succ]
      refine wpAnyZ_take (i := 5) (v := .int .i64 (fm k)) rfl (by kernel_rfl) (by kernel_rfl) (by kernel_rfl) (by kernel_rfl) (fun _ _ _ h => h) (Or.inl ⟨by rfl, fun w hSw => by (obtain ⟨e0, e1, e2⟩ := hSw; have hl := e2.look hk64; go_simp)⟩) hHeld ?_
      try simp only [List.getElem_toArray, List.getElem_cons_succ, List.getElem_cons_zero, Act.put, List.setIfInBounds_toArray, List.set_cons_zero, List.set_cons_succ]
      refine wpAnyZ_take (i := 10) (v := .int .i64 (fm k - l)) rfl (by kernel_rfl) (by kernel_rfl) (by kernel_rfl) (by kernel_rfl) (fun _ _ _ h => h) (Or.inl ⟨by rfl, fun w hSw => by (obtain ⟨e0, e1, e2⟩ := hSw; go_simp)⟩) hHeld ?_
      try simp only [List.getElem_toArray, List.getElem_cons_succ, List.getElem_cons_zero, Act.put, List.setIfInBounds_toArray, List.set_cons_zero, List.set_cons_succ]
      refine wpAnyZ_ready (rs := [11]) (by kernel_rfl) (by simp) ?_
      refine AllReadyZ.last rfl rfl (fun Kc hK => ?_) AllReadyZ.nil
      rw [if_pos (by rfl)]
      refine wp_store_imap _ _ _ _ rfl W.heap.size i (keyP (at0 isl) i) fm k (fm k - l) rfl rfl rfl (HMM.out.same rfl) (by omega) hk64 (by unfold isI64; omega) ?_
      intro w4 hM4 hT4
      refine hK.out _ _ ?_
      clear hK Kc
      try simp only [List.getElem_toArray, List.getElem_cons_succ, List.getElem_cons_zero, Act.put]
      refine wpAnyZ_done (by kernel_rfl) ?_ _
      clear hHeld
      go_wp2_with fail
      have cL4 := hT4.cell (p := ⟨bl, ol + i, none⟩) (by simp only; omega) (show wr.drew.drew.cell? _ = _ from cL)
      have cH4 := hT4.cell (p := ⟨bh, oh + i, none⟩) (by simp only; omega) (show wr.drew.drew.cell? _ = _ from cH)
      have cI4 := hT4.cell (p := ⟨bi, oi + i, none⟩) (by simp only; omega) (show wr.drew.drew.cell? _ = _ from cI)
      have hMR4 : IMap w4 (W.heap.size + 1) i (keyP (at0 isl) i) fr := (HMR.out.same rfl : IMap wr.drew.drew _ _ _ _).turn hT4 (by omega)
      have HMR4 := Lib.hid hMR4
      clear hMR4
      refine wp_region_Z (S := fun w' => w'.cell? ⟨bl, ol + i, none⟩ = some (.int .i64 l) ∧ w'.cell? ⟨bh, oh + i, none⟩ = some (.int .i64 h) ∧ w'.cell? ⟨bi, oi + i, none⟩ = some (.int .i64 k) ∧ IMap w' (W.heap.size + 1) i (keyP (at0 isl) i) fr) (fun i => i == 16) (by kernel_rfl) (⟨cL4, cH4, cI4, HMR4.out.same rfl⟩) (fun hHeld => ?_)
      refine wpAnyZ_take (i := 0) (v := .map (some (W.heap.size + 1))) rfl (by kernel_rfl) (by kernel_rfl) (by kernel_rfl) (by kernel_rfl) (fun _ _ _ h => h) (Or.inl ⟨by rfl, fun w hSw => by (obtain ⟨e0, e1, e2, e3⟩ := hSw; go_simp)⟩) hHeld ?_
      try simp only [List.getElem_toArray, List.getElem_cons_zero, Act.put, List.setIfInBounds_toArray, List.set_cons_zero, List.set_cons_succ]
      refine wpAnyZ_take (i := 1) (v := .slice (some ⟨bi, oi, none⟩) n ic) rfl (by kernel_rfl) (by kernel_rfl) (by kernel_rfl) (by kernel_rfl) (fun _ _ _ h => h) (Or.inl ⟨by rfl, fun w hSw => by (obtain ⟨e0, e1, e2, e3⟩ := hSw; go_simp)⟩) hHeld ?_
      try simp only [List.getElem_toArray, List.getElem_cons_succ, List.getElem_cons_zero, Act.put, List.setIfInBounds_toArray, List.set_cons_zero, List.set_cons_succ]
      refine wpAnyZ_take (i := 2) (v := .int .i64 (i : Int)) rfl (by kernel_rfl) (by kernel_rfl) (by kernel_rfl) (by kernel_rfl) (fun _ _ _ h => h) (Or.inl ⟨by rfl, fun w hSw => by (obtain ⟨e0, e1, e2, e3⟩ := hSw; go_simp)⟩) hHeld ?_
      try simp only [List.getElem_toArray, List.getElem_cons_succ, List.getElem_cons_zero, Act.put, List.setIfInBounds_toArray, List.set_cons_zero, List.set_cons_succ]
      refine wpAnyZ_take (i := 3) (v := .pointer (some ⟨bi, oi + i, none⟩)) rfl (by kernel_rfl) (by kernel_rfl) (by kernel_rfl) (by kernel_rfl) (fun _ _ _ h => h) (Or.inl ⟨by rfl, fun w hSw => by (obtain ⟨e0, e1, e2, e3⟩ := hSw; go_simp)⟩) hHeld ?_
      try simp only [List.getElem_toArray, List.getElem_cons_succ, List.getElem_cons_zero, Act.put, List.setIfInBounds_toArray, List.set_cons_zero, List.set_cons_succ]
      refine wpAnyZ_take (i := 4) (v := .int .i64 k) rfl (by kernel_rfl) (by kernel_rfl) (by kernel_rfl) (by kernel_rfl) (fun _ _ _ h => h) (Or.inl ⟨by rfl, fun w hSw => by (obtain ⟨e0, e1, e2, e3⟩ := hSw; go_simp)⟩) hHeld ?_
      try simp only [List.getElem_toArray, List.getElem_cons_succ, List.getElem_cons_zero, Act.put, List.setIfInBounds_toArray, List.set_cons_zero, List.set_cons_succ]
      refine wpAnyZ_take (i := 6) (v := .slice (some ⟨bh, oh, none⟩) n hc) rfl (by kernel_rfl) (by kernel_rfl) (by kernel_rfl) (by kernel_rfl) (fun _ _ _ h => h) (Or.inl ⟨by rfl, fun w hSw => by (obtain ⟨e0, e1, e2, e3⟩ := hSw; go_simp)⟩) hHeld ?_
      try simp only [List.getElem_toArray, List.getElem_cons_succ, List.getElem_cons_zero, Act.put, List.setIfInBounds_toArray, List.set_cons_zero, List.set_cons_succ]
      refine wpAnyZ_take (i := 7) (v := .int .i64 (i : Int)) rfl (by kernel_rfl) (by kernel_rfl) (by kernel_rfl) (by kernel_rfl) (fun _ _ _ h => h) (Or.inl ⟨by rfl, fun w hSw => by (obtain ⟨e0, e1, e2, e3⟩ := hSw; go_simp)⟩) hHeld ?_
      try simp only [List.getElem_toArray, List.getElem_cons_succ, List.getElem_cons_zero, Act.put, List.setIfInBounds_toArray, List.set_cons_zero, List.set_cons_succ]
      refine wpAnyZ_take (i := 8) (v := .pointer (some ⟨bh, oh + i, none⟩)) rfl (by kernel_rfl) (by kernel_rfl) (by kernel_rfl) (by kernel_rfl) (fun _ _ _ h => h) (Or.inl ⟨by rfl, fun w hSw => by (obtain ⟨e0, e1, e2, e3⟩ := hSw; go_simp)⟩) hHeld ?_
      try simp only [List.getElem_toArray, List.getElem_cons_succ, List.getElem_cons_zero, Act.put, List.setIfInBounds_toArray, List.set_cons_zero, List.set_cons_succ]
      refine wpAnyZ_take (i := 9) (v := .int .i64 h) rfl (by kernel_rfl) (by kernel_rfl) (by kernel_rfl) (by kernel_rfl) (fun _ _ _ h => h) (Or.inl ⟨by rfl, fun w hSw => by (obtain ⟨e0, e1, e2, e3⟩ := hSw; go_simp)⟩) hHeld ?_
      try simp only [List.getElem_toArray, List.getElem_cons_succ, List.getElem_cons_zero, Act.put, List.setIfInBounds_toArray, List.set_cons_zero, List.set_cons_succ]
      refine wpAnyZ_take (i := 10) (v := .slice (some ⟨bl, ol, none⟩) n lc) rfl (by kernel_rfl) (by kernel_rfl) (by kernel_rfl) (by kernel_rfl) (fun _ _ _ h => h) (Or.inl ⟨by rfl, fun w hSw => by (obtain ⟨e0, e1, e2, e3⟩ := hSw; go_simp)⟩) hHeld ?_
      try simp only [List.getElem_toArray, List.getElem_cons_succ, List.getElem_cons_zero, Act.put, List.setIfInBounds_toArray, List.set_cons_zero, List.set_cons_succ]
      refine wpAnyZ_take (i := 11) (v := .int .i64 (i : Int)) rfl (by kernel_rfl) (by kernel_rfl) (by kernel_rfl) (by kernel_rfl) (fun _ _ _ h => h) (Or.inl ⟨by rfl, fun w hSw => by (obtain ⟨e0, e1, e2, e3⟩ := hSw; go_simp)⟩) hHeld ?_
      try simp only [List.getElem_toArray, List.getElem_cons_succ, List.getElem_cons_zero, Act.put, List.setIfInBounds_toArray, List.set_cons_zero, List.set_cons_succ]
      refine wpAnyZ_take (i := 12) (v := .pointer (some ⟨bl, ol + i, none⟩)) rfl (by kernel_rfl) (by kernel_rfl) (by kernel_rfl) (by kernel_rfl) (fun _ _ _ h => h) (Or.inl ⟨by rfl, fun w hSw => by (obtain ⟨e0, e1, e2, e3⟩ := hSw; go_simp)⟩) hHeld ?_
      try simp only [List.getElem_toArray, List.getElem_cons_succ, List.getElem_cons_zero, Act.put, List.setIfInBounds_toArray, List.set_cons_zero, List.set_cons_succ]
      refine wpAnyZ_take (i := 13) (v := .int .i64 l) rfl (by kernel_rfl) (by kernel_rfl) (by kernel_rfl) (by kernel_rfl) (fun _ _ _ h => h) (Or.inl ⟨by rfl, fun w hSw => by (obtain ⟨e0, e1, e2, e3⟩ := hSw; go_simp)⟩) hHeld ?_
      try simp only [List.getElem_toArray, List.getElem_cons_succ, List.getElem_cons_zero, Act.put, List.setIfInBounds_toArray, List.set_cons_zero, List.set_cons_succ]
      refine wpAnyZ_take (i := 5) (v := .int .i64 (fr k)) rfl (by kernel_rfl) (by kernel_rfl) (by kernel_rfl) (by kernel_rfl) (fun _ _ _ h => h) (Or.inl ⟨by rfl, fun w hSw => by (obtain ⟨e0, e1, e2, e3⟩ := hSw; have hl := e3.look hk64; go_simp)⟩) hHeld ?_
      try simp only [List.getElem_toArray, List.getElem_cons_succ, List.getElem_cons_zero, Act.put, List.setIfInBounds_toArray, List.set_cons_zero, List.set_cons_succ]
      refine wpAnyZ_take (i := 14) (v := .int .i64 (h - l)) rfl (by kernel_rfl) (by kernel_rfl) (by kernel_rfl) (by kernel_rfl) (fun _ _ _ h => h) (Or.inl ⟨by rfl, fun w hSw => by (obtain ⟨e0, e1, e2, e3⟩ := hSw; go_simp)⟩) hHeld ?_
      try simp only [List.getElem_toArray, List.getElem_cons_succ, List.getElem_cons_zero, Act.put, List.setIfInBounds_toArray, List.set_cons_zero, List.set_cons_succ]
      refine wpAnyZ_take (i := 15) (v := .int .i64 (fr k + (h - l))) rfl (by kernel_rfl) (by kernel_rfl) (by kernel_rfl) (by kernel_rfl) (fun _ _ _ h => h) (Or.inl ⟨by rfl, fun w hSw => by (obtain ⟨e0, e1, e2, e3⟩ := hSw; go_simp)⟩) hHeld ?_
      try simp only [List.getElem_toArray, List.getElem_cons_succ, List.getElem_cons_zero, Act.put, List.setIfInBounds_toArray, List.set_cons_zero, List.set_cons_succ]
      refine wpAnyZ_ready (rs := [16]) (by kernel_rfl) (by simp) ?_
      refine AllReadyZ.last rfl rfl (fun Kc hK => ?_) AllReadyZ.nil
      rw [if_pos (by rfl)]
      refine wp_store_imap _ _ _ _ rfl (W.heap.size + 1) i (keyP (at0 isl) i) fr k (fr k + (h - l)) rfl rfl rfl (HMR4.out.same rfl) (by omega) hk64 (by unfold isI64; omega) ?_
      intro w5 hM5 hT5
      refine hK.out _ _ ?_
      clear hK Kc
      try simp only [List.getElem_toArray, List.getElem_cons_succ, List.getElem_cons_zero, Act.put]
      refine wpAnyZ_done (by kernel_rfl) ?_ _
      clear hHeld
      go_wp2_with fail
      have hm5 : IMap w5 W.heap.size (i + 1) (keyP (at0 isl) (i + 1)) (missF (at0 lo) (at0 isl) (i + 1)) := ((show IMap w4.drew W.heap.size (i + 1) _ _ from hM4.same rfl).turn hT5 (show W.heap.size ≠ W.heap.size + 1 by omega)).keys HKS.out HMS.out
      have hr5 : IMap w5 (W.heap.size + 1) (i + 1) (keyP (at0 isl) (i + 1)) (roomF (at0 lo) (at0 hi) (at0 isl) (i + 1)) := hM5.keys HKS.out HRM.out
      exact ⟨⟨i + 1, by omega, ⟨hT5.ext (hT4.ext (HAT.out.ext.drew.drew) (by omega)).drew (by omega), hT5.arr (by omega) (hT4.arr (by omega) HAT.out.box), hT5.arr (by omega) (hT4.arr (by omega) HAT.out.r1), hT5.arr (by omega) (hT4.arr (by omega) HAT.out.r2), hm5, hr5⟩, by go_num⟩, by simp only [intOf]; omega⟩
    · obtain rfl : i = n := by omega
      clear hi0 hlt
      have hMm := hAt.miss
      have hrm := hAt.room.lt
      have hmb := HBOX.out.miss (at0 isl)
      have hfm : ∀ k, missF (at0 lo) (at0 isl) i k ≤ 1099511627776 := fun k => by have := hmb k i (Nat.le_refl _) (by omega); omega
      have hfz : ∀ k, ¬ keyP (at0 isl) i k → missF (at0 lo) (at0 isl) i k = 0 := by
        intro k hk
        obtain ⟨D, ⟨es, clock, hb, F, hs, hD⟩, h2, h3⟩ := hMm
        have hh : Maps.has D (.int .i64 k) = false := by
          cases hq : Maps.has D (.int .i64 k) with
          | false => rfl
          | true => exact absurd ((h2 k).1 hq) hk
        have := h3 k
        rw [Maps.atKey_of_not_has hh] at this
        simp only [DataW.lit.injEq, Lit.int.injEq, true_and] at this
        exact this.symm
      have HAT := Lib.hid hAt
      have HMM := Lib.hid hMm
      have hRoo := hAt.room
      have HROO := Lib.hid hRoo
      clear hAt hMm hmb hRoo
      generalize keyP (at0 isl) i = K at *
      generalize missF (at0 lo) (at0 isl) i = fm at *
      generalize roomF (at0 lo) (at0 hi) (at0 isl) i = fr at *
      have HFM := Lib.hid hfm; have HFZ := Lib.hid hfz
      clear hfm hfz
      obtain ⟨rr, hrr⟩ : ∃ rr, rr = wr.heap.size := ⟨_, rfl⟩
      have hrr1 : W.heap.size + 1 < rr := by omega
      have HRR := Lib.hid hrr
      go_wp2_with (at_range; refine wpList_range_imap _ rfl _ rfl W.heap.size i K fm rfl HMM.out ?_; intro w6 cnt0 hr6 x6 z6)
      rw [← hrr] at hr6 ⊢
      have S6 : Hid (RgAt w W rr i ta tc K fm fr K cnt0 w6) := ⟨HAT.out.ext.trans x6, HAT.out.box.ext x6, HAT.out.r1.ext x6, HAT.out.r2.ext x6, hr6, fun k hk => hk, HROO.out.ext x6⟩
      clear hrr hr6 x6 z6
      go_frame
      go_loopw [15] (fun _ wq => ∃ (left : Int → Prop) (cnt : Nat), RgAt w W rr i ta tc K fm fr left cnt wq) (fun _ wq => wq.rangeLeft W.heap.size rr)
      case atStart => exact ⟨K, cnt0, S6.out⟩
      case round =>
        obtain ⟨left, cnt, hRg⟩ := hrel
        have HRg := Lib.hid hRg
        clear hRg S6
        go_wp2_with (at_next; refine wpList_next_imap _ rfl _ rfl W.heap.size rr i K fm left cnt rfl HRg.out.rg ?_ ?_)
        · intro hl0
          have hRg := HRg.out
          have hmi := hRg.rg.imap
          obtain ⟨bo, hbo⟩ : ∃ bo, bo = wr.heap.size := ⟨_, rfl⟩
          have hbo1 : W.heap.size + 1 < bo := by have := hRg.room.lt; omega
          have HMI := Lib.hid hmi
          clear hRg hmi
          go_upto_region 19 with (at_make; refine wpList_make_one _ rfl _ _ 22 rfl 3 (.int .i64 0) 8 Tryz.underlying22 Tryz.info_int rfl _ _ i rfl rfl (by go_num) (by go_num) (by omega) (by omega) ?_; intro w8 hw8 hx8 hz8)
          rw [← hbo] at hw8 ⊢
          have S8 : Hid (OrAt w W i ta tc K fm bo ((List.range 0).map (fun k : Nat => (k : Int)) ++ List.replicate (i - 0) 0) w8) := ⟨HRg.out.ext.trans hx8, HRg.out.box.ext hx8, HRg.out.r1.ext hx8, HRg.out.r2.ext hx8, HMI.out.ext hx8, by rw [List.range_zero, List.map_nil, List.nil_append, Nat.sub_zero, ← i64s_zeros]; exact hw8.out⟩
          clear hbo hw8 hx8 hz8 HMI HRg
          go_wp2_with fail
          go_loopw [138] (fun ii wq => ∃ j : Nat, j ≤ i ∧ OrAt w W i ta tc K fm bo ((List.range j).map (fun k : Nat => (k : Int)) ++ List.replicate (i - j) 0) wq ∧ ii = .int .i64 j) (fun ii _ => i - (intOf ii).toNat)
          case atStart => exact ⟨0, Nat.zero_le _, S8.out, rfl⟩
          case round =>
            obtain ⟨j, hj, hOr, rfl⟩ := hrel
            clear S8
            by_cases hlt : j < i
            · obtain ⟨m, hm⟩ : ∃ m, i - j = m + 1 := ⟨i - j - 1, by omega⟩
              have hm' : i - (j + 1) = m := by omega
              have eO : ((List.range j).map (fun k : Nat => (k : Int))).length = j := by simp
              have aO := hOr.ord
              rw [hm] at aO
              have cO : wr.cell? ⟨bo, j, none⟩ = some (.int .i64 0) := by
                rw [aO.cell, i64s_get _ _ (by simp)]
                congr 2
                rw [List.getElem_append_right (by simp)]; simp
              have fO := aO.frozen j
              have D4 : Arr (wr.setCell ⟨bo, j, none⟩ (.int .i64 (j : Nat))) bo 3 (i64s ((List.range (j + 1)).map (fun k : Nat => (k : Int)) ++ List.replicate (i - (j + 1)) 0)) := by
                have h5 := aO.set j (.int .i64 (j : Nat))
                have h6 := i64s_next ((List.range j).map (fun k : Nat => (k : Int))) m (j : Int)
                rw [eO] at h6
                rw [h6] at h5
                rw [List.range_succ, List.map_append, hm']
                exact h5
              have HO : Hid (OrAt w W i ta tc K fm bo ((List.range (j + 1)).map (fun k : Nat => (k : Int)) ++ List.replicate (i - (j + 1)) 0) (wr.setCell ⟨bo, j, none⟩ (.int .i64 (j : Nat)))) :=
                ⟨hOr.ext.setCell (by simp only; omega) _, hOr.box.other _ _ (by simp only; omega), hOr.r1.other _ _ (by simp only; omega), hOr.r2.other _ _ (by simp only; omega), hOr.miss.setCell _ _ (by simp only; omega), D4⟩
              clear D4 aO eO hOr hm hm'
              go_wp2_with fail
              exact ⟨⟨j + 1, by omega, HO.out, by go_num⟩, by simp only [intOf]; omega⟩
            · obtain rfl : i = j := by omega
              rw [Nat.sub_self, List.replicate_zero, List.append_nil] at hOr
              clear hj hlt
              have aO := hOr.ord
              have hKp : Keeps w wr := hOr.ext.keeps
              have hcl : ∀ V, Agree bo wr V → ∀ x y : Nat, x < i → y < i → Calls Tryz.prog 66 #[.int .i64 (x : Nat), .int .i64 (y : Nat), .pointer (some ⟨w.heap.size, 0, none⟩)] V fun e w' => e = .returned (.int .i64 (apCmp (negs qs) x y)) ∧ Ext V w' := fun V hV x y hx hy =>
                sc_cmp V w.heap.size i L tc ta rs qs (hV.cell (by simp only; omega) (by have := hOr.box.cell 0; simpa using this)) (HR.out.keeps (hV.old hKp (by omega))) n1 (by omega) x y hx hy
              have hsort := sc_sort_all wr w.heap.size bo i i qs (by omega) hcl (fun k hk => ⟨by
                rw [aO.cell, i64s_get _ _ (by simp; exact hk)]
                simp, aO.frozen k⟩)
              have hbl := aO.lt
              have HSO := Lib.hid hsort
              have HOR := Lib.hid hOr
              have hf : ∀ k, 0 ≤ fm k ∧ fm k ≤ 1099511627776 := by
                intro k
                by_cases hk : K k
                · exact ⟨(HG.out k hk).1, HFM.out k⟩
                · rw [HFZ.out k hk]; omega
              have hFil : ∀ (os : List Nat), os.length = i → (∀ x ∈ os, x < i) → ∀ V b', Keeps w V → IntIn V (some ⟨bo, 0, none⟩) i (os.map fun (x : Nat) => (x : Int)) → IMap V b' i K fm → Calls Tryz.prog 70 #[.slice ta i tc, .slice la i lc, .slice ha i hc, .slice ia i ic, .slice (some ⟨bo, 0, none⟩) i i, .map (some b')] V fun e w' => ∃ r : RVal, e = .returned (.agg #[.bool r.s, .slice r.a r.k r.c, .slice r.b r.j r.d]) ∧ IsCan w' r (fillSum (atQ qs) (at0 lo) (at0 hi) (at0 isl) os fm) V.heap.size ∧ ExtBut b' V w' := by
                intro os ho1 ho2 V b' hV hI hM
                have h5 := sc_filled V ta la ha ia (some ⟨bo, 0, none⟩) tc lc hc ic i L i b' i rs qs lo hi isl os K fm (HR.out.keeps hV) (HLO.out.keeps hV) (HHI.out.keeps hV) (HIL.out.keeps hV) hI hM n1 n2 n3 n4 ho2 (by omega) (by omega) hL HBOX.out hf
                rw [ho1] at h5
                exact h5
              have hF1 := hFil (scOrder qs i) (scOrder_length _ _) (fun x hx => (scOrder_mem _ _ _).1 hx)
              have hF2 := hFil (scOrder qs i).reverse (by rw [List.length_reverse, scOrder_length]) (fun x hx => (scOrder_mem _ _ _).1 (List.mem_reverse.1 hx))
              rw [← HP.out] at hF1
              rw [← HQ.out] at hF2
              have HF1 := Lib.hid hF1; have HF2 := Lib.hid hF2
              clear hsort hcl hKp aO hOr hf hFil hF1 hF2
              go_wp2_with fail
              refine HSO.out.mono ?_
              rintro e w9 ⟨rfl, hso⟩
              have b9 := hso.but
              have E9 : Ext w w9 := b9.ext HOR.out.ext (by omega)
              have K9 : Keeps w w9 := E9.keeps
              have A9 := b9.arr (by omega) HOR.out.box
              have P9 := b9.arr (by omega) HOR.out.r1
              have Q9 := b9.arr (by omega) HOR.out.r2
              have M9 := HOR.out.miss.but b9 (by omega)
              have N9 := hso.holds
              have I9 : IntIn w9 (some ⟨bo, 0, none⟩) i ((scOrder qs i).map fun (x : Nat) => (x : Int)) := intIn_own w9 bo i _ (scOrder_length _ _) (by omega) (fun k hk => (scOrder_mem _ _ _).1 hk) (fun j hj => (N9 j hj).1)
              have s9 : bo < w9.heap.size := Nat.lt_of_lt_of_le hbl b9.size
              have HA9 := Lib.hid A9; have HP9 := Lib.hid P9; have HQ9 := Lib.hid Q9; have HM9 := Lib.hid M9; have HN9 := Lib.hid N9; have HI9 := Lib.hid I9
              clear hso b9 A9 P9 Q9 M9 N9 I9 HOR HSO
              have hKK : ∀ V, Arr V w.heap.size 48 [.slice ta i tc] → Arr V (w.heap.size + 1) 55 zero3 → V.cell? ⟨w.heap.size, 0, none⟩ = some (.slice ta i tc) ∧ V.cell? ⟨w.heap.size + 1, 0, none⟩ = some (.bool false) ∧ V.cell? ⟨w.heap.size + 1, 1, none⟩ = some (.slice none 0 0) ∧ V.cell? ⟨w.heap.size + 1, 2, none⟩ = some (.slice none 0 0) ∧ V.frozen? ⟨w.heap.size + 1, 0, none⟩ = false ∧ V.frozen? ⟨w.heap.size + 1, 1, none⟩ = false ∧ V.frozen? ⟨w.heap.size + 1, 2, none⟩ = false := fun V h1 h2 => by
                obtain ⟨p0, p1, p2, p3, p4, p5⟩ := box3 h2 (Ext.refl _)
                exact ⟨by have := h1.cell 0; simpa using this, p0, p1, p2, p3, p4, p5⟩
              have HKK := Lib.hid hKK
              clear hKK
              go_wp2_with fail
              refine wp_region_Z (S := fun w' => w'.cell? ⟨w.heap.size, 0, none⟩ = some (.slice ta i tc) ∧ w'.cell? ⟨w.heap.size + 1, 0, none⟩ = some (.bool false) ∧ w'.cell? ⟨w.heap.size + 1, 1, none⟩ = some (.slice none 0 0) ∧ w'.cell? ⟨w.heap.size + 1, 2, none⟩ = some (.slice none 0 0) ∧ w'.frozen? ⟨w.heap.size + 1, 0, none⟩ = false ∧ w'.frozen? ⟨w.heap.size + 1, 1, none⟩ = false ∧ w'.frozen? ⟨w.heap.size + 1, 2, none⟩ = false) (fun i => i == 8) (by kernel_rfl) (HKK.out _ (by exact HA9.out) (by exact HP9.out)) (fun hHeld => ?_)
              refine wpAnyZ_take (i := 0) (v := .slice ta i tc) rfl (by kernel_rfl) (by kernel_rfl) (by kernel_rfl) (by kernel_rfl) (fun _ _ _ h => h) (Or.inl ⟨by rfl, fun w hSw => by (obtain ⟨e0, e1, e2, e3, e4, e5, e6⟩ := hSw; go_simp)⟩) hHeld ?_
              try simp only [List.getElem_toArray, List.getElem_cons_zero, Act.put, List.setIfInBounds_toArray, List.set_cons_zero, List.set_cons_succ]
              refine wpAnyZ_take (i := 1) (v := .slice la i lc) rfl (by kernel_rfl) (by kernel_rfl) (by kernel_rfl) (by kernel_rfl) (fun _ _ _ h => h) (Or.inl ⟨by rfl, fun w hSw => by (obtain ⟨e0, e1, e2, e3, e4, e5, e6⟩ := hSw; go_simp)⟩) hHeld ?_
              try simp only [List.getElem_toArray, List.getElem_cons_succ, List.getElem_cons_zero, Act.put, List.setIfInBounds_toArray, List.set_cons_zero, List.set_cons_succ]
              refine wpAnyZ_take (i := 2) (v := .slice ha i hc) rfl (by kernel_rfl) (by kernel_rfl) (by kernel_rfl) (by kernel_rfl) (fun _ _ _ h => h) (Or.inl ⟨by rfl, fun w hSw => by (obtain ⟨e0, e1, e2, e3, e4, e5, e6⟩ := hSw; go_simp)⟩) hHeld ?_
              try simp only [List.getElem_toArray, List.getElem_cons_succ, List.getElem_cons_zero, Act.put, List.setIfInBounds_toArray, List.set_cons_zero, List.set_cons_succ]
              refine wpAnyZ_take (i := 3) (v := .slice ia i ic) rfl (by kernel_rfl) (by kernel_rfl) (by kernel_rfl) (by kernel_rfl) (fun _ _ _ h => h) (Or.inl ⟨by rfl, fun w hSw => by (obtain ⟨e0, e1, e2, e3, e4, e5, e6⟩ := hSw; go_simp)⟩) hHeld ?_
              try simp only [List.getElem_toArray, List.getElem_cons_succ, List.getElem_cons_zero, Act.put, List.setIfInBounds_toArray, List.set_cons_zero, List.set_cons_succ]
              refine wpAnyZ_take (i := 4) (v := .slice (some ⟨bo, 0, none⟩) i i) rfl (by kernel_rfl) (by kernel_rfl) (by kernel_rfl) (by kernel_rfl) (fun _ _ _ h => h) (Or.inl ⟨by rfl, fun w hSw => by (obtain ⟨e0, e1, e2, e3, e4, e5, e6⟩ := hSw; go_simp)⟩) hHeld ?_
              try simp only [List.getElem_toArray, List.getElem_cons_succ, List.getElem_cons_zero, Act.put, List.setIfInBounds_toArray, List.set_cons_zero, List.set_cons_succ]
              refine wpAnyZ_take (i := 5) (v := .map (some W.heap.size)) rfl (by kernel_rfl) (by kernel_rfl) (by kernel_rfl) (by kernel_rfl) (fun _ _ _ h => h) (Or.inl ⟨by rfl, fun w hSw => by (obtain ⟨e0, e1, e2, e3, e4, e5, e6⟩ := hSw; go_simp)⟩) hHeld ?_
              try simp only [List.getElem_toArray, List.getElem_cons_succ, List.getElem_cons_zero, Act.put, List.setIfInBounds_toArray, List.set_cons_zero, List.set_cons_succ]
              refine wpAnyZ_ready (rs := [6]) (by kernel_rfl) (by simp) ?_
              refine AllReadyZ.cons rfl (fun Kc hK => ?_) AllReadyZ.nil
              go_simp
              refine (mclone w9.drew W.heap.size i K fm (by exact HM9.out.same rfl)).mono ?_
              rintro e z1 ⟨b1, rfl, hb1, hb2, hM1, xz1⟩
              have x91 : Ext w9 z1 := (Ext.refl _).drew.trans xz1
              have hb1' : w9.heap.size ≤ b1 := hb1
              refine hK.out _ _ (HKK.out _ (HA9.out.ext x91) (HP9.out.ext x91)) (fun hHeld => ?_)
              clear hK Kc
              try simp only [List.getElem_toArray, List.getElem_cons_succ, List.getElem_cons_zero, Act.put, List.setIfInBounds_toArray, List.set_cons_zero, List.set_cons_succ]
              refine wpAnyZ_ready (rs := [7]) (by kernel_rfl) (by simp) ?_
              refine AllReadyZ.cons rfl (fun Kc hK => ?_) AllReadyZ.nil
              go_simp
              refine (HF1.out z1 b1 (K9.trans x91.keeps) (HI9.out.ext x91) hM1).mono ?_
              rintro e z2 ⟨r, rfl, hr, hbz⟩
              have A2 := hbz.arr (by omega) (HA9.out.ext x91)
              have P2 := hbz.arr (by omega) (HP9.out.ext x91)
              refine hK.out _ _ (HKK.out _ A2 P2) (fun hHeld => ?_)
              clear hK Kc
              try simp only [List.getElem_toArray, List.getElem_cons_succ, List.getElem_cons_zero, Act.put, List.setIfInBounds_toArray, List.set_cons_zero, List.set_cons_succ]
              obtain ⟨e0, e1, e2, e3, e4, e5, e6⟩ := HKK.out _ A2 P2
              refine wpAnyZ_ready (rs := [8]) (by kernel_rfl) (by simp) ?_
              refine AllReadyZ.last rfl rfl (fun Kc hK => ?_) AllReadyZ.nil
              go_simp
              
              refine hK.out _ _ ?_
              clear hK Kc
              try simp only [List.getElem_toArray, List.getElem_cons_succ, List.getElem_cons_zero, Act.put]
              refine wpAnyZ_done (by kernel_rfl) ?_ _
              clear hHeld e0 e1 e2 e3 e4 e5 e6
              have s2 := hbz.size
              have s1 := x91.size
              have E1 : Ext w z1 := E9.trans x91
              have E2 : Ext w z2 := hbz.ext E1 (by omega)
              have Q2 := hbz.arr (by omega) (HQ9.out.ext x91)
              have M2 := (HM9.out.ext x91).but hbz (by omega)
              have N2 : HoldsN z2 bo (scOrder qs i) := (HN9.out.same (x91.below.block bo s9)).same (hbz.block bo (by omega) (by omega))
              obtain ⟨z3, hz3⟩ : ∃ z3, z3 = ((z2.setCell ⟨w.heap.size + 1, 0, none⟩ (.bool r.s)).setCell ⟨w.heap.size + 1, 1, none⟩ (.slice r.a r.k r.c)).setCell ⟨w.heap.size + 1, 2, none⟩ (.slice r.b r.j r.d) := ⟨_, rfl⟩
              have hk3 : ∀ k, k ≠ w.heap.size + 1 → z3.heap[k]? = z2.heap[k]? := by
                intro k hk
                rw [hz3, Below.heap_setCell _ _ _ _ (by simpa using hk), Below.heap_setCell _ _ _ _ (by simpa using hk), Below.heap_setCell _ _ _ _ (by simpa using hk)]
              have E3 : Ext w z3 := by rw [hz3]; exact ((E2.setCell (p := ⟨w.heap.size + 1, 0, none⟩) (by simp only; omega) _).setCell (p := ⟨w.heap.size + 1, 1, none⟩) (by simp only; omega) _).setCell (p := ⟨w.heap.size + 1, 2, none⟩) (by simp only; omega) _
              have P3 : Arr z3 (w.heap.size + 1) 55 r.cells := by rw [hz3]; exact ((P2.set 0 _).set 1 _).set 2 _
              have A3 : Arr z3 w.heap.size 48 [.slice ta i tc] := by unfold Arr; rw [hk3 _ (by omega)]; exact A2
              have Q3 : Arr z3 (w.heap.size + 2) 55 zero3 := by unfold Arr; rw [hk3 _ (by omega)]; exact Q2
              have M3 := M2.same (hk3 _ (by omega))
              have N3 := N2.same (hk3 _ (by omega))
              have R3 : IsCan z3 r P z1.heap.size := by rw [hz3]; exact ((hr.setCell ⟨w.heap.size + 1, 0, none⟩ _ (by simp only; omega)).setCell ⟨w.heap.size + 1, 1, none⟩ _ (by simp only; omega)).setCell ⟨w.heap.size + 1, 2, none⟩ _ (by simp only; omega)
              have s3 : z3.heap.size = z2.heap.size := by rw [hz3]; simp [World.setCell]
              clear hr E2 Q2 M2 N2 A2 P2 hk3
              go_upto_region 26 with fail
              rw [← hz3]
              clear hz3
              have hrv := srev z3 bo i i (scOrder qs i) (scOrder_length _ _) (by omega) N3
              have HRV := Lib.hid hrv
              clear hrv N3
              go_wp2_with fail
              refine HRV.out.mono ?_
              rintro e w11 ⟨rfl, c11, t11⟩
              have E11 : Ext w w11 := t11.ext E3 (by omega)
              have A11 := t11.arr (by omega) A3
              have P11 := t11.arr (by omega) P3
              have Q11 := t11.arr (by omega) Q3
              have M11 := M3.turn t11 (by omega)
              have I11 : IntIn w11 (some ⟨bo, 0, none⟩) i ((scOrder qs i).reverse.map fun (x : Nat) => (x : Int)) := intIn_own w11 bo i _ (by rw [List.length_reverse, scOrder_length]) (by omega) (fun k hk => (scOrder_mem _ _ _).1 (List.mem_reverse.1 hk)) c11
              have R11 : IsCan w11 r P z1.heap.size := R3.but t11.but (by omega)
              have kb : w11.cell? ⟨w.heap.size, 0, none⟩ = some (.slice ta i tc) := by have := A11.cell 0; simpa using this
              have hf2 := HF2.out w11 W.heap.size E11.keeps I11 M11
              have HFF := Lib.hid hf2
              have s11 := t11.size
              clear hf2 c11 t11 A3 P3 Q3 M3 R3 I11 A11 M11
              go_wp2_with fail
              refine HFF.out.mono ?_
              rintro e w12 ⟨r', rfl, hr', hb12⟩
              have E12 : Ext w w12 := hb12.ext E11 (by omega)
              have P12 := hb12.arr (by omega) P11
              have Q12 : Arr w12 (w.heap.size + 1 + 1) 55 zero3 := hb12.arr (by omega) Q11
              have R12 : IsCan w12 r P z1.heap.size := R11.but hb12 (by omega)
              obtain ⟨q0, q1, q2, q3, q4, q5⟩ := box3 Q12 (Ext.refl _)
              obtain ⟨z4, hz4⟩ : ∃ z4, z4 = ((w12.setCell ⟨w.heap.size + 1 + 1, 0, none⟩ (.bool r'.s)).setCell ⟨w.heap.size + 1 + 1, 1, none⟩ (.slice r'.a r'.k r'.c)).setCell ⟨w.heap.size + 1 + 1, 2, none⟩ (.slice r'.b r'.j r'.d) := ⟨_, rfl⟩
              have E4 : Ext w z4 := by rw [hz4]; exact ((E12.setCell (p := ⟨w.heap.size + 1 + 1, 0, none⟩) (by simp only; omega) _).setCell (p := ⟨w.heap.size + 1 + 1, 1, none⟩) (by simp only; omega) _).setCell (p := ⟨w.heap.size + 1 + 1, 2, none⟩) (by simp only; omega) _
              have Q4 : Arr z4 (w.heap.size + 1 + 1) 55 r'.cells := by rw [hz4]; exact ((Q12.set 0 _).set 1 _).set 2 _
              have P4 : Arr z4 (w.heap.size + 1) 55 r.cells := by rw [hz4]; exact ((P12.other ⟨w.heap.size + 1 + 1, 0, none⟩ _ (by simp only; omega)).other ⟨w.heap.size + 1 + 1, 1, none⟩ _ (by simp only; omega)).other ⟨w.heap.size + 1 + 1, 2, none⟩ _ (by simp only; omega)
              have R4 : IsCan z4 r P (w.heap.size + 3) := by rw [hz4]; exact (((R12.setCell ⟨w.heap.size + 1 + 1, 0, none⟩ _ (by simp only; omega)).setCell ⟨w.heap.size + 1 + 1, 1, none⟩ _ (by simp only; omega)).setCell ⟨w.heap.size + 1 + 1, 2, none⟩ _ (by simp only; omega)).mono (by omega)
              have R4' : IsCan z4 r' Q (w.heap.size + 3) := by rw [hz4]; exact (((hr'.setCell ⟨w.heap.size + 1 + 1, 0, none⟩ _ (by simp only; omega)).setCell ⟨w.heap.size + 1 + 1, 1, none⟩ _ (by simp only; omega)).setCell ⟨w.heap.size + 1 + 1, 2, none⟩ _ (by simp only; omega)).mono (by omega)
              clear hr' E12 P12 Q12 R12 R11 P11 Q11
              go_upto_region 28 with fail
              rw [← hz4]
              clear hz4 q0 q1 q2 q3 q4 q5
              obtain ⟨q0, q1, q2, q3, q4, q5⟩ := box3 Q4 (Ext.refl _)
              obtain ⟨p0, p1, p2, p3, p4, p5⟩ := box3 P4 (Ext.refl _)
              have HP4 := Lib.hid P4; have HQ4 := Lib.hid Q4
              have HR4 := Lib.hid R4; have HR4' := Lib.hid R4'; have HE4 := Lib.hid E4
              clear R4 R4' E4 Q4 P4 HR HLO HHI HIL HBOX HG HP HQ HFM HFZ HF1 HF2 HA9 HP9 HQ9 HM9 HN9 HI9 HKK HRV HFF
              have hKK : ∀ V, Arr V (w.heap.size + 1) 55 r.cells → Arr V (w.heap.size + 1 + 1) 55 r'.cells → V.cell? ⟨w.heap.size + 1, 0, none⟩ = some (.bool r.s) ∧ V.cell? ⟨w.heap.size + 1, 1, none⟩ = some (.slice r.a r.k r.c) ∧ V.cell? ⟨w.heap.size + 1, 2, none⟩ = some (.slice r.b r.j r.d) ∧ V.frozen? ⟨w.heap.size + 1, 0, none⟩ = false ∧ V.frozen? ⟨w.heap.size + 1, 1, none⟩ = false ∧ V.frozen? ⟨w.heap.size + 1, 2, none⟩ = false ∧ V.cell? ⟨w.heap.size + 1 + 1, 0, none⟩ = some (.bool r'.s) ∧ V.cell? ⟨w.heap.size + 1 + 1, 1, none⟩ = some (.slice r'.a r'.k r'.c) ∧ V.cell? ⟨w.heap.size + 1 + 1, 2, none⟩ = some (.slice r'.b r'.j r'.d) ∧ V.frozen? ⟨w.heap.size + 1 + 1, 0, none⟩ = false ∧ V.frozen? ⟨w.heap.size + 1 + 1, 1, none⟩ = false ∧ V.frozen? ⟨w.heap.size + 1 + 1, 2, none⟩ = false := fun V h1 h2 => by
                obtain ⟨p0, p1, p2, p3, p4, p5⟩ := box3 h1 (Ext.refl _)
                obtain ⟨q0, q1, q2, q3, q4, q5⟩ := box3 h2 (Ext.refl _)
                exact ⟨p0, p1, p2, p3, p4, p5, q0, q1, q2, q3, q4, q5⟩
              have HKK := Lib.hid hKK
              clear hKK
              refine wp_region_Z (S := fun w' => w'.cell? ⟨w.heap.size + 1, 0, none⟩ = some (.bool r.s) ∧ w'.cell? ⟨w.heap.size + 1, 1, none⟩ = some (.slice r.a r.k r.c) ∧ w'.cell? ⟨w.heap.size + 1, 2, none⟩ = some (.slice r.b r.j r.d) ∧ w'.frozen? ⟨w.heap.size + 1, 0, none⟩ = false ∧ w'.frozen? ⟨w.heap.size + 1, 1, none⟩ = false ∧ w'.frozen? ⟨w.heap.size + 1, 2, none⟩ = false ∧ w'.cell? ⟨w.heap.size + 1 + 1, 0, none⟩ = some (.bool r'.s) ∧ w'.cell? ⟨w.heap.size + 1 + 1, 1, none⟩ = some (.slice r'.a r'.k r'.c) ∧ w'.cell? ⟨w.heap.size + 1 + 1, 2, none⟩ = some (.slice r'.b r'.j r'.d) ∧ w'.frozen? ⟨w.heap.size + 1 + 1, 0, none⟩ = false ∧ w'.frozen? ⟨w.heap.size + 1 + 1, 1, none⟩ = false ∧ w'.frozen? ⟨w.heap.size + 1 + 1, 2, none⟩ = false) (fun i => false) (by kernel_rfl) (HKK.out _ (by exact HP4.out) (by exact HQ4.out)) (fun hHeld => ?_)
              refine wpAnyZ_take (i := 0) (v := .agg #[.bool r.s, .slice r.a r.k r.c, .slice r.b r.j r.d]) rfl (by kernel_rfl) (by kernel_rfl) (by kernel_rfl) (by kernel_rfl) (fun _ _ _ h => h) (Or.inl ⟨by rfl, fun w hSw => by (obtain ⟨e0, e1, e2, e3, e4, e5, e6, e7, e8, e9, e10, e11⟩ := hSw; go_simp)⟩) hHeld ?_
              try simp only [List.getElem_toArray, List.getElem_cons_zero, Act.put, List.setIfInBounds_toArray, List.set_cons_zero, List.set_cons_succ]
              refine wpAnyZ_take (i := 1) (v := .agg #[.bool r'.s, .slice r'.a r'.k r'.c, .slice r'.b r'.j r'.d]) rfl (by kernel_rfl) (by kernel_rfl) (by kernel_rfl) (by kernel_rfl) (fun _ _ _ h => h) (Or.inl ⟨by rfl, fun w hSw => by (obtain ⟨e0, e1, e2, e3, e4, e5, e6, e7, e8, e9, e10, e11⟩ := hSw; go_simp)⟩) hHeld ?_
              try simp only [List.getElem_toArray, List.getElem_cons_succ, List.getElem_cons_zero, Act.put, List.setIfInBounds_toArray, List.set_cons_zero, List.set_cons_succ]
              have D1' : Arr ((((z4).setCell ⟨w.heap.size + 1, 0, none⟩ (.bool r.s)).setCell ⟨w.heap.size + 1, 1, none⟩ (.slice r.a r.k r.c)).setCell ⟨w.heap.size + 1, 2, none⟩ (.slice r.b r.j r.d)) (w.heap.size + 1) 55 r.cells := ((HP4.out.set 0 _).set 1 _).set 2 _
              have D2' : Arr ((((z4).setCell ⟨w.heap.size + 1, 0, none⟩ (.bool r.s)).setCell ⟨w.heap.size + 1, 1, none⟩ (.slice r.a r.k r.c)).setCell ⟨w.heap.size + 1, 2, none⟩ (.slice r.b r.j r.d)) (w.heap.size + 1 + 1) 55 r'.cells := ((HQ4.out.other ⟨w.heap.size + 1, 0, none⟩ _ (by simp only; omega)).other ⟨w.heap.size + 1, 1, none⟩ _ (by simp only; omega)).other ⟨w.heap.size + 1, 2, none⟩ _ (by simp only; omega)
              have F1' : Arr (((((((z4).setCell ⟨w.heap.size + 1, 0, none⟩ (.bool r.s)).setCell ⟨w.heap.size + 1, 1, none⟩ (.slice r.a r.k r.c)).setCell ⟨w.heap.size + 1, 2, none⟩ (.slice r.b r.j r.d)).setCell ⟨w.heap.size + 1 + 1, 0, none⟩ (.bool r'.s)).setCell ⟨w.heap.size + 1 + 1, 1, none⟩ (.slice r'.a r'.k r'.c)).setCell ⟨w.heap.size + 1 + 1, 2, none⟩ (.slice r'.b r'.j r'.d)) (w.heap.size + 1) 55 r.cells := ((D1'.other ⟨w.heap.size + 1 + 1, 0, none⟩ _ (by simp only; omega)).other ⟨w.heap.size + 1 + 1, 1, none⟩ _ (by simp only; omega)).other ⟨w.heap.size + 1 + 1, 2, none⟩ _ (by simp only; omega)
              have F2' : Arr (((((((z4).setCell ⟨w.heap.size + 1, 0, none⟩ (.bool r.s)).setCell ⟨w.heap.size + 1, 1, none⟩ (.slice r.a r.k r.c)).setCell ⟨w.heap.size + 1, 2, none⟩ (.slice r.b r.j r.d)).setCell ⟨w.heap.size + 1 + 1, 0, none⟩ (.bool r'.s)).setCell ⟨w.heap.size + 1 + 1, 1, none⟩ (.slice r'.a r'.k r'.c)).setCell ⟨w.heap.size + 1 + 1, 2, none⟩ (.slice r'.b r'.j r'.d)) (w.heap.size + 1 + 1) 55 r'.cells := ((D2'.set 0 _).set 1 _).set 2 _
              have D1 : Arr ((((z4).setCell ⟨w.heap.size + 1, 0, none⟩ (.bool r.s)).setCell ⟨w.heap.size + 1, 1, none⟩ (.slice r.a r.k r.c)).setCell ⟨w.heap.size + 1, 2, none⟩ (.slice r.b r.j r.d)).drew (w.heap.size + 1) 55 r.cells := D1'.drewn
              have D2 : Arr ((((z4).setCell ⟨w.heap.size + 1, 0, none⟩ (.bool r.s)).setCell ⟨w.heap.size + 1, 1, none⟩ (.slice r.a r.k r.c)).setCell ⟨w.heap.size + 1, 2, none⟩ (.slice r.b r.j r.d)).drew (w.heap.size + 1 + 1) 55 r'.cells := D2'.drewn
              have F1 : Arr (((((((z4).setCell ⟨w.heap.size + 1, 0, none⟩ (.bool r.s)).setCell ⟨w.heap.size + 1, 1, none⟩ (.slice r.a r.k r.c)).setCell ⟨w.heap.size + 1, 2, none⟩ (.slice r.b r.j r.d)).setCell ⟨w.heap.size + 1 + 1, 0, none⟩ (.bool r'.s)).setCell ⟨w.heap.size + 1 + 1, 1, none⟩ (.slice r'.a r'.k r'.c)).setCell ⟨w.heap.size + 1 + 1, 2, none⟩ (.slice r'.b r'.j r'.d)).drew (w.heap.size + 1) 55 r.cells := F1'.drewn
              have F2 : Arr (((((((z4).setCell ⟨w.heap.size + 1, 0, none⟩ (.bool r.s)).setCell ⟨w.heap.size + 1, 1, none⟩ (.slice r.a r.k r.c)).setCell ⟨w.heap.size + 1, 2, none⟩ (.slice r.b r.j r.d)).setCell ⟨w.heap.size + 1 + 1, 0, none⟩ (.bool r'.s)).setCell ⟨w.heap.size + 1 + 1, 1, none⟩ (.slice r'.a r'.k r'.c)).setCell ⟨w.heap.size + 1 + 1, 2, none⟩ (.slice r'.b r'.j r'.d)).drew (w.heap.size + 1 + 1) 55 r'.cells := F2'.drewn
              clear D1' D2' F1' F2'
              obtain ⟨e0, e1, e2, e3, e4, e5, e6, e7, e8, e9, e10, e11⟩ := hHeld
              have hHeld := HKK.out z4.drew (by exact HP4.out) (by exact HQ4.out)
              refine wpAnyZ_ready (rs := [2]) (by kernel_rfl) (by simp) ?_
              refine AllReadyZ.cons rfl (fun Kc hK => ?_) AllReadyZ.nil
              go_simp
              
              refine hK.out _ _ (HKK.out _ D1 D2) (fun hHeld => ?_)
              clear hK Kc
              try simp only [List.getElem_toArray, List.getElem_cons_succ, List.getElem_cons_zero, Act.put]
              clear e0 e1 e2 e3 e4 e5 e6 e7 e8 e9 e10 e11
              obtain ⟨e0, e1, e2, e3, e4, e5, e6, e7, e8, e9, e10, e11⟩ := HKK.out _ D1 D2
              refine wpAnyZ_ready (rs := [3]) (by kernel_rfl) (by simp) ?_
              refine AllReadyZ.cons rfl (fun Kc hK => ?_) AllReadyZ.nil
              go_simp
              
              refine hK.out _ _ (HKK.out _ F1 F2) (fun hHeld => ?_)
              clear hK Kc
              try simp only [List.getElem_toArray, List.getElem_cons_succ, List.getElem_cons_zero, Act.put]
              clear e0 e1 e2 e3 e4 e5 e6 e7 e8 e9 e10 e11
              refine wpAnyZ_take (i := 4) (v := .bool true) rfl (by kernel_rfl) (by kernel_rfl) (by kernel_rfl) (by kernel_rfl) (fun _ _ _ h => h) (Or.inl ⟨by rfl, fun w hSw => by (obtain ⟨e0, e1, e2, e3, e4, e5, e6, e7, e8, e9, e10, e11⟩ := hSw; go_simp)⟩) hHeld ?_
              try simp only [List.getElem_toArray, List.getElem_cons_succ, List.getElem_cons_zero, Act.put, List.setIfInBounds_toArray, List.set_cons_zero, List.set_cons_succ]
              refine wpAnyZ_done (by kernel_rfl) ?_ _
              obtain ⟨e0, e1, e2, e3, e4, e5, e6, e7, e8, e9, e10, e11⟩ := HKK.out _ F1 F2
              clear hHeld D1 D2 F1 F2
              go_wp2_with fail
              refine bodyPost_ret (v := .tuple #[.agg #[.bool r.s, .slice r.a r.k r.c, .slice r.b r.j r.d], .agg #[.bool r'.s, .slice r'.a r'.k r'.c, .slice r'.b r'.j r'.d], .bool true]) (by simp [results, Tryz.results25, go_sem, e0, e1, e2, e6, e7, e8]) rfl ⟨r, r', rfl, ?_, ?_, ?_⟩
              · exact (((HR4.out.same3 (w.heap.size + 1) (by omega)).same3 (w.heap.size + 1 + 1) (by omega)).ext (Ext.refl _).drew).mono (by omega)
              · exact (((HR4'.out.same3 (w.heap.size + 1) (by omega)).same3 (w.heap.size + 1 + 1) (by omega)).ext (Ext.refl _).drew).mono (by omega)
              · exact (Ext.set3' (Ext.set3' HE4.out (by omega)) (by omega)).drew
        · intro x w7 cnt7 hx64 hlx hfx hr7 hlt7 hT7 hen
          have hgx := HG.out x (HRg.out.sub x hlx)
          have hM7 := HRg.out.room.turn hT7 (show W.heap.size + 1 ≠ rr by omega)
          have hlook := hM7.look hx64
          have t1 : decide (fm x < 0) = false := by simp; omega
          have t2 : decide (fr x < fm x) = false := by simp; omega
          have S7 : Hid (RgAt w W rr i ta tc K fm fr (fun k => left k ∧ k ≠ x) cnt7 w7) := ⟨hT7.ext HRg.out.ext (by omega), hT7.arr (by omega) HRg.out.box, hT7.arr (by omega) HRg.out.r1, hT7.arr (by omega) HRg.out.r2, hr7, fun k hk => HRg.out.sub k hk.1, hM7⟩
          have hms : w7.rangeLeft W.heap.size rr < wr.rangeLeft W.heap.size rr := by rw [hr7.left_eq, HRg.out.rg.left_eq]; exact hlt7
          clear hgx hM7 hr7 hT7
          go_wp2_with fail
          exact ⟨⟨_, cnt7, S7.out⟩, hms⟩

end Go.Proofs.YtgihpfkjpfanmaaGreat
