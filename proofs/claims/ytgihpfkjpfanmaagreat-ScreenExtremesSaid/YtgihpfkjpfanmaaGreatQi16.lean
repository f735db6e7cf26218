/- Texts of the proof: Sc8, Sc9, Sc10, Sc11. -/
import Derived.Test.YtgihpfkjpfanmaaGreatProg
import Derived.Shelf.SlSortCmp.NoneTotal
import Derived.Maps.RangeWalk
import Derived.Maps.OwnSet
import Derived.Maps.OwnOps
import Derived.Maps.Views
import Derived.Lib.MinMax
import Derived.Deep.DeepCutAuto
import Derived.Deep.CutBlock
import Derived.IntWalk
import Derived.Test.YtgihpfkjpfanmaaGreatRows
import Derived.Test.YtgihpfkjpfanmaaGreatChecked
import Derived.Lib.Strings
import Derived.Lib.Slices
import Derived.Lib.Small
import Derived.Lib.Walk
import Derived.Lib.BitFns
import Derived.Laws.AppendOwnNone
import Derived.Deep.LoopGhost
import Derived.KernelRfl
import Derived.WalkKit
import Derived.WalkSpells
import Derived.Sort.Grow
import Derived.Lib.Hide
import Derived.Laws.CopyOwn
import Derived.Laws.BitsAllLaws
import Derived.Deep.QuietTactic
import Derived.BigQuiet
import Derived.WalkLawsBesides
import Derived.Deep.RegionWith
import Derived.Deep.RegionHeld3
import Derived.Deep.Slices
import Derived.ProofKit
import Derived.OpenShut
import Derived.ShutString
import Derived.ChangeOld
import Derived.Below
import Derived.Deep.RegionHeld
import Derived.Shelf.SlMaps.Clone
import Derived.Shelf.SlicesE.Reverse
import Derived.Test.YtgihpfkjpfanmaaGreatQi1
import Derived.Test.YtgihpfkjpfanmaaGreatQi2
import Derived.Test.YtgihpfkjpfanmaaGreatQi3
import Derived.Test.YtgihpfkjpfanmaaGreatQi4
import Derived.Test.YtgihpfkjpfanmaaGreatQi5
import Derived.Test.YtgihpfkjpfanmaaGreatQi6
import Derived.Test.YtgihpfkjpfanmaaGreatQi7
import Derived.Test.YtgihpfkjpfanmaaGreatQi8
import Derived.Test.YtgihpfkjpfanmaaGreatQi9
import Derived.Test.YtgihpfkjpfanmaaGreatQi10
import Derived.Test.YtgihpfkjpfanmaaGreatQi11
import Derived.Test.YtgihpfkjpfanmaaGreatQi12
import Derived.Test.YtgihpfkjpfanmaaGreatQi13
import Derived.Test.YtgihpfkjpfanmaaGreatQi14
import Derived.Test.YtgihpfkjpfanmaaGreatQi15
namespace Go.Proofs.YtgihpfkjpfanmaaGreat
open Go.RowKit Go.Sort

/-- What Extreme returns where there is no answer. -/
def ExNo (w : World) (e : Ending) (w' : World) : Prop :=
  e = .returned (.tuple #[.agg #[.bool false, .slice none 0 0, .slice none 0 0], .agg #[.bool false, .slice none 0 0, .slice none 0 0], .bool false]) ∧ Ext w w'

set_option maxHeartbeats 8000000 in
set_option maxRecDepth 100000 in
theorem sc_extreme_bad (w : World) (ta la ha ia : Option Addr) (tc lc hc ic L n : Nat) (rs : List RVal) (qs : List Rat) (lo hi isl : List Int)
    (hR : Rats w ta tc rs qs L) (hlo : IntIn w la lc lo) (hhi : IntIn w ha hc hi) (hil : IntIn w ia ic isl)
    (n1 : rs.length = n) (n2 : lo.length = n) (n3 : hi.length = n) (n4 : isl.length = n) (hn : n ≤ 32) (_hL : L ≤ 1000) (hbox : BoxOk (at0 lo) (at0 hi) n)
    (hg : ∃ k, keyP (at0 isl) n k ∧ ¬ (0 ≤ missF (at0 lo) (at0 isl) n k ∧ missF (at0 lo) (at0 isl) n k ≤ roomF (at0 lo) (at0 hi) (at0 isl) n k)) :
    Calls Tryz.prog 25 #[.slice ta n tc, .slice la n lc, .slice ha n hc, .slice ia n ic] w fun e w' => ExNo w e w' := by
  have hRle := hR.le; have hRcap := hR.cap; have hl1 := hlo.le; have hl2 := hlo.cap; have hh1 := hhi.le; have hh2 := hhi.cap; have hi1 := hil.le; have hi2 := hil.cap
  have HR := Lib.hid hR; have HLO := Lib.hid hlo; have HHI := Lib.hid hhi; have HIL := Lib.hid hil; have HBOX := Lib.hid hbox; have HG := Lib.hid hg
  clear hR hlo hhi hil hbox hg
  have hmm := @run_makeMap Tryz.prog
  have u1 : decide ((32 : Int) < (n : Int)) = false := by simp; omega
  have u2 : ((n : Int) != (n : Int)) = false := by simp
  go_enter Tryz.func25, Tryz.ntmps25
  go_upto_region 1 with fail
  obtain ⟨W, hW, x0, Z0, A0, A1, A2⟩ := boxes3 w 48 [.slice ta n tc] 55 zero3 55 zero3
  rw [show (World.alloc (World.alloc (World.alloc w (Obj.cells #[Value.slice ta n tc] 48)) (Obj.cells #[Value.bool false, Value.slice none 0 0, Value.slice none 0 0] 55)) (Obj.cells #[Value.bool false, Value.slice none 0 0, Value.slice none 0 0] 55)) = W from hW.symm]
  clear hW
  have kb := A0.cell 0
  simp at kb
  go_upto_region 5 with fail
  have hMs : IMap (W.alloc (.map #[] 0)) W.heap.size 0 (fun _ => False) (fun _ => 0) := IMap.made W
  have y1 : Ext W (W.alloc (.map #[] 0)) := (Ext.refl _).alloc _
  have hRm : IMap ((W.alloc (.map #[] 0)).alloc (.map #[] 0)) (W.heap.size + 1) 0 (fun _ => False) (fun _ => 0) := by
    have := IMap.made (W.alloc (.map #[] 0))
    rwa [show (W.alloc (.map #[] 0)).heap.size = W.heap.size + 1 from by simp] at this
  have y2 : Ext (W.alloc (.map #[] 0)) ((W.alloc (.map #[] 0)).alloc (.map #[] 0)) := (Ext.refl _).alloc _
  have SI : Hid (ExAt w W n (at0 lo) (at0 hi) (at0 isl) ta tc 0 ((W.alloc (.map #[] 0)).alloc (.map #[] 0))) :=
    ⟨x0.trans (y1.trans y2), A0.ext (y1.trans y2), A1.ext (y1.trans y2), A2.ext (y1.trans y2), (hMs.ext y2).keys (keyP_zero _) (fun k => (missF_zero _ _ k).symm), hRm.keys (keyP_zero _) (fun k => (roomF_zero _ _ _ k).symm)⟩
  generalize (W.alloc (.map #[] 0)).alloc (.map #[] 0) = W2 at *
  clear hMs y1 hRm y2 A0 A1 A2 kb hmm
  have hz : w.heap.size + 2 < W.heap.size := by have := Z0.out; omega
  go_wp2_with fail
  go_loopw [46] (fun ii wr => ∃ i : Nat, i ≤ n ∧ ExAt w W n (at0 lo) (at0 hi) (at0 isl) ta tc i wr ∧ ii = .int .i64 i) (fun ii _ => n - (intOf ii).toNat)
  case atStart => exact ⟨0, Nat.zero_le _, SI.out, rfl⟩
  case round =>
    obtain ⟨i, hi0, hAt, rfl⟩ := hrel
    clear SI
    by_cases hlt : i < n
    · have hE := hAt.ext
      obtain ⟨bl, ol, rfl, cL⟩ := (HLO.out.ext hE).cell i (by omega)
      obtain ⟨bh, oh, rfl, cH⟩ := (HHI.out.ext hE).cell i (by omega)
      obtain ⟨bi, oi, rfl, cI⟩ := (HIL.out.ext hE).cell i (by omega)
      have hkk := HIL.out.rng i (by omega)
      have zl : bl < w.heap.size := by obtain ⟨b', o', e', c'⟩ := HLO.out.cell i (by omega); cases e'; exact block_lt c'
      have zh : bh < w.heap.size := by obtain ⟨b', o', e', c'⟩ := HHI.out.cell i (by omega); cases e'; exact block_lt c'
      have zi : bi < w.heap.size := by obtain ⟨b', o', e', c'⟩ := HIL.out.cell i (by omega); cases e'; exact block_lt c'
      obtain ⟨hB1, hB2, hB3⟩ := HBOX.out i hlt
      have hm1 := HBOX.out.miss (at0 isl) (at0 isl i) i (by omega) (by omega)
      have hm2 := HBOX.out.room (at0 isl) (at0 isl i) i (by omega) (by omega)
      have eA : at0 lo i = lo[i] := at0_eq (by omega)
      have eB : at0 hi i = hi[i] := at0_eq (by omega)
      have eC : at0 isl i = isl[i] := at0_eq (by omega)
      have hms : ∀ x, upd (missF (at0 lo) (at0 isl) i) (at0 isl i) (missF (at0 lo) (at0 isl) i (at0 isl i) - at0 lo i) x = missF (at0 lo) (at0 isl) (i + 1) x := missF_succ _ _ i
      have hrm : ∀ x, upd (roomF (at0 lo) (at0 hi) (at0 isl) i) (at0 isl i) (roomF (at0 lo) (at0 hi) (at0 isl) i (at0 isl i) + (at0 hi i - at0 lo i)) x = roomF (at0 lo) (at0 hi) (at0 isl) (i + 1) x := roomF_succ _ _ _ i
      have hks : ∀ x, (x = at0 isl i ∨ keyP (at0 isl) i x) ↔ keyP (at0 isl) (i + 1) x := keyP_succ _ i
      have hMm := hAt.miss
      have hMr := hAt.room
      rw [← eA] at cL; rw [← eB] at cH; rw [← eC] at cI hkk
      have HAT := Lib.hid hAt
      clear hAt hE eA eB eC
      generalize missF (at0 lo) (at0 isl) i = fm at *
      generalize roomF (at0 lo) (at0 hi) (at0 isl) i = fr at *
      generalize at0 lo i = l at *
      generalize at0 hi i = h at *
      generalize at0 isl i = k at *
      have hk64 : isI64 k := hkk
      have t1 : decide (l < (-1073741824 : Int)) = false := by simp; omega
      have t2 : decide ((1073741824 : Int) < l) = false := by simp; omega
      have t3 : decide (h < (-1073741824 : Int)) = false := by simp; omega
      have t4 : decide ((1073741824 : Int) < h) = false := by simp; omega
      have t5 : decide (h < l) = false := by simp; omega
      have hw1 : IntKind.i64.wrap (fm k - l) = fm k - l := by rw [IntKind.wrap_i64]; omega
      have hw2 : IntKind.i64.wrap (h - l) = h - l := by rw [IntKind.wrap_i64]; omega
      have hw3 : IntKind.i64.wrap (fr k + (h - l)) = fr k + (h - l) := by rw [IntKind.wrap_i64]; omega
      have HMS := Lib.hid hms; have HRM := Lib.hid hrm; have HKS := Lib.hid hks; have HMM := Lib.hid hMm; have HMR := Lib.hid hMr
      have bi0 : (0 : Int) ≤ (i : Int) := by omega
      have bi1 : (i : Int) < (n : Int) := by omega
      clear hms hrm hks hMm hMr
      go_wp2_with fail
      refine wp_region_Z (S := fun w' => w'.cell? ⟨bl, ol + i, none⟩ = some (.int .i64 l) ∧ w'.cell? ⟨bh, oh + i, none⟩ = some (.int .i64 h)) (fun i => false) (by kernel_rfl) (⟨cL, cH⟩) (fun hHeld => ?_)
      refine wpAnyZ_take (i := 0) (v := .slice (some ⟨bl, ol, none⟩) n lc) rfl (by kernel_rfl) (by kernel_rfl) (by kernel_rfl) (by kernel_rfl) (fun _ _ _ h => h) (Or.inl ⟨by rfl, fun w hSw => by (obtain ⟨e0, e1⟩ := hSw; go_simp)⟩) hHeld ?_
      try simp only [List.getElem_toArray, List.getElem_cons_zero, Act.put, List.setIfInBounds_toArray, List.set_cons_zero, List.set_cons_succ]
      refine wpAnyZ_take (i := 1) (v := .int .i64 (i : Int)) rfl (by kernel_rfl) (by kernel_rfl) (by kernel_rfl) (by kernel_rfl) (fun _ _ _ h => h) (Or.inl ⟨by rfl, fun w hSw => by (obtain ⟨e0, e1⟩ := hSw; go_simp)⟩) hHeld ?_
      try simp only [List.getElem_toArray, List.getElem_cons_succ, List.getElem_cons_zero, Act.put, List.setIfInBounds_toArray, List.set_cons_zero, List.set_cons_succ]
      refine wpAnyZ_take (i := 2) (v := .pointer (some ⟨bl, ol + i, none⟩)) rfl (by kernel_rfl) (by kernel_rfl) (by kernel_rfl) (by kernel_rfl) (fun _ _ _ h => h) (Or.inl ⟨by rfl, fun w hSw => by (obtain ⟨e0, e1⟩ := hSw; go_simp)⟩) hHeld ?_
      try simp only [List.getElem_toArray, List.getElem_cons_succ, List.getElem_cons_zero, Act.put, List.setIfInBounds_toArray, List.set_cons_zero, List.set_cons_succ]
      refine wpAnyZ_take (i := 3) (v := .int .i64 l) rfl (by kernel_rfl) (by kernel_rfl) (by kernel_rfl) (by kernel_rfl) (fun _ _ _ h => h) (Or.inl ⟨by rfl, fun w hSw => by (obtain ⟨e0, e1⟩ := hSw; go_simp)⟩) hHeld ?_
      try simp only [List.getElem_toArray, List.getElem_cons_succ, List.getElem_cons_zero, Act.put, List.setIfInBounds_toArray, List.set_cons_zero, List.set_cons_succ]
      refine wpAnyZ_take (i := 4) (v := .bool false) rfl (by kernel_rfl) (by kernel_rfl) (by kernel_rfl) (by kernel_rfl) (fun _ _ _ h => h) (Or.inl ⟨by rfl, fun w hSw => by (obtain ⟨e0, e1⟩ := hSw; go_simp)⟩) hHeld ?_
      try simp only [List.getElem_toArray, List.getElem_cons_succ, List.getElem_cons_zero, Act.put, List.setIfInBounds_toArray, List.set_cons_zero, List.set_cons_succ]
      refine wpAnyZ_take (i := 5) (v := .bool false) rfl (by kernel_rfl) (by kernel_rfl) (by kernel_rfl) (by kernel_rfl) (fun _ _ _ h => h) (Or.inl ⟨by rfl, fun w hSw => by (obtain ⟨e0, e1⟩ := hSw; go_simp)⟩) hHeld ?_
      try simp only [List.getElem_toArray, List.getElem_cons_succ, List.getElem_cons_zero, Act.put, List.setIfInBounds_toArray, List.set_cons_zero, List.set_cons_succ]
      refine wpAnyZ_take (i := 6) (v := .slice (some ⟨bl, ol, none⟩) n lc) rfl (by kernel_rfl) (by kernel_rfl) (by kernel_rfl) (by kernel_rfl) (fun _ _ _ h => h) (Or.inl ⟨by rfl, fun w hSw => by (obtain ⟨e0, e1⟩ := hSw; go_simp)⟩) hHeld ?_
      try simp only [List.getElem_toArray, List.getElem_cons_succ, List.getElem_cons_zero, Act.put, List.setIfInBounds_toArray, List.set_cons_zero, List.set_cons_succ]
      refine wpAnyZ_take (i := 7) (v := .int .i64 (i : Int)) rfl (by kernel_rfl) (by kernel_rfl) (by kernel_rfl) (by kernel_rfl) (fun _ _ _ h => h) (Or.inl ⟨by rfl, fun w hSw => by (obtain ⟨e0, e1⟩ := hSw; go_simp)⟩) hHeld ?_
      try simp only [List.getElem_toArray, List.getElem_cons_succ, List.getElem_cons_zero, Act.put, List.setIfInBounds_toArray, List.set_cons_zero, List.set_cons_succ]
      refine wpAnyZ_take (i := 8) (v := .pointer (some ⟨bl, ol + i, none⟩)) rfl (by kernel_rfl) (by kernel_rfl) (by kernel_rfl) (by kernel_rfl) (fun _ _ _ h => h) (Or.inl ⟨by rfl, fun w hSw => by (obtain ⟨e0, e1⟩ := hSw; go_simp)⟩) hHeld ?_
      try simp only [List.getElem_toArray, List.getElem_cons_succ, List.getElem_cons_zero, Act.put, List.setIfInBounds_toArray, List.set_cons_zero, List.set_cons_succ]
      refine wpAnyZ_take (i := 9) (v := .int .i64 l) rfl (by kernel_rfl) (by kernel_rfl) (by kernel_rfl) (by kernel_rfl) (fun _ _ _ h => h) (Or.inl ⟨by rfl, fun w hSw => by (obtain ⟨e0, e1⟩ := hSw; go_simp)⟩) hHeld ?_
      try simp only [List.getElem_toArray, List.getElem_cons_succ, List.getElem_cons_zero, Act.put, List.setIfInBounds_toArray, List.set_cons_zero, List.set_cons_succ]
      refine wpAnyZ_take (i := 10) (v := .bool false) rfl (by kernel_rfl) (by kernel_rfl) (by kernel_rfl) (by kernel_rfl) (fun _ _ _ h => h) (Or.inl ⟨by rfl, fun w hSw => by (obtain ⟨e0, e1⟩ := hSw; go_simp)⟩) hHeld ?_
      try simp only [List.getElem_toArray, List.getElem_cons_succ, List.getElem_cons_zero, Act.put, List.setIfInBounds_toArray, List.set_cons_zero, List.set_cons_succ]
      refine wpAnyZ_take (i := 11) (v := .bool false) rfl (by kernel_rfl) (by kernel_rfl) (by kernel_rfl) (by kernel_rfl) (fun _ _ _ h => h) (Or.inl ⟨by rfl, fun w hSw => by (obtain ⟨e0, e1⟩ := hSw; go_simp)⟩) hHeld ?_
      try simp only [List.getElem_toArray, List.getElem_cons_succ, List.getElem_cons_zero, Act.put, List.setIfInBounds_toArray, List.set_cons_zero, List.set_cons_succ]
      refine wpAnyZ_take (i := 12) (v := .bool false) rfl (by kernel_rfl) (by kernel_rfl) (by kernel_rfl) (by kernel_rfl) (fun _ _ _ h => h) (Or.inl ⟨by rfl, fun w hSw => by (obtain ⟨e0, e1⟩ := hSw; go_simp)⟩) hHeld ?_
      try simp only [List.getElem_toArray, List.getElem_cons_succ, List.getElem_cons_zero, Act.put, List.setIfInBounds_toArray, List.set_cons_zero, List.set_cons_succ]
      refine wpAnyZ_take (i := 13) (v := .slice (some ⟨bh, oh, none⟩) n hc) rfl (by kernel_rfl) (by kernel_rfl) (by kernel_rfl) (by kernel_rfl) (fun _ _ _ h => h) (Or.inl ⟨by rfl, fun w hSw => by (obtain ⟨e0, e1⟩ := hSw; go_simp)⟩) hHeld ?_
      try simp only [List.getElem_toArray, List.getElem_cons_succ, List.getElem_cons_zero, Act.put, List.setIfInBounds_toArray, List.set_cons_zero, List.set_cons_succ]
      refine wpAnyZ_take (i := 14) (v := .int .i64 (i : Int)) rfl (by kernel_rfl) (by kernel_rfl) (by kernel_rfl) (by kernel_rfl) (fun _ _ _ h => h) (Or.inl ⟨by rfl, fun w hSw => by (obtain ⟨e0, e1⟩ := hSw; go_simp)⟩) hHeld ?_
      try simp only [List.getElem_toArray, List.getElem_cons_succ, List.getElem_cons_zero, Act.put, List.setIfInBounds_toArray, List.set_cons_zero, List.set_cons_succ]
      refine wpAnyZ_take (i := 15) (v := .pointer (some ⟨bh, oh + i, none⟩)) rfl (by kernel_rfl) (by kernel_rfl) (by kernel_rfl) (by kernel_rfl) (fun _ _ _ h => h) (Or.inl ⟨by rfl, fun w hSw => by (obtain ⟨e0, e1⟩ := hSw; go_simp)⟩) hHeld ?_
      try simp only [List.getElem_toArray, List.getElem_cons_succ, List.getElem_cons_zero, Act.put, List.setIfInBounds_toArray, List.set_cons_zero, List.set_cons_succ]
      refine wpAnyZ_take (i := 16) (v := .int .i64 h) rfl (by kernel_rfl) (by kernel_rfl) (by kernel_rfl) (by kernel_rfl) (fun _ _ _ h => h) (Or.inl ⟨by rfl, fun w hSw => by (obtain ⟨e0, e1⟩ := hSw; go_simp)⟩) hHeld ?_
      try simp only [List.getElem_toArray, List.getElem_cons_succ, List.getElem_cons_zero, Act.put, List.setIfInBounds_toArray, List.set_cons_zero, List.set_cons_succ]
      refine wpAnyZ_take (i := 17) (v := .bool false) rfl (by kernel_rfl) (by kernel_rfl) (by kernel_rfl) (by kernel_rfl) (fun _ _ _ h => h) (Or.inl ⟨by rfl, fun w hSw => by (obtain ⟨e0, e1⟩ := hSw; go_simp)⟩) hHeld ?_
      try simp only [List.getElem_toArray, List.getElem_cons_succ, List.getElem_cons_zero, Act.put, List.setIfInBounds_toArray, List.set_cons_zero, List.set_cons_succ]
      refine wpAnyZ_take (i := 18) (v := .bool false) rfl (by kernel_rfl) (by kernel_rfl) (by kernel_rfl) (by kernel_rfl) (fun _ _ _ h => h) (Or.inl ⟨by rfl, fun w hSw => by (obtain ⟨e0, e1⟩ := hSw; go_simp)⟩) hHeld ?_
      try simp only [List.getElem_toArray, List.getElem_cons_succ, List.getElem_cons_zero, Act.put, List.setIfInBounds_toArray, List.set_cons_zero, List.set_cons_succ]
      refine wpAnyZ_take (i := 19) (v := .bool false) rfl (by kernel_rfl) (by kernel_rfl) (by kernel_rfl) (by kernel_rfl) (fun _ _ _ h => h) (Or.inl ⟨by rfl, fun w hSw => by (obtain ⟨e0, e1⟩ := hSw; go_simp)⟩) hHeld ?_
      try simp only [List.getElem_toArray, List.getElem_cons_succ, List.getElem_cons_zero, Act.put, List.setIfInBounds_toArray, List.set_cons_zero, List.set_cons_succ]
      refine wpAnyZ_take (i := 20) (v := .slice (some ⟨bh, oh, none⟩) n hc) rfl (by kernel_rfl) (by kernel_rfl) (by kernel_rfl) (by kernel_rfl) (fun _ _ _ h => h) (Or.inl ⟨by rfl, fun w hSw => by (obtain ⟨e0, e1⟩ := hSw; go_simp)⟩) hHeld ?_
      try simp only [List.getElem_toArray, List.getElem_cons_succ, List.getElem_cons_zero, Act.put, List.setIfInBounds_toArray, List.set_cons_zero, List.set_cons_succ]
      refine wpAnyZ_take (i := 21) (v := .int .i64 (i : Int)) rfl (by kernel_rfl) (by kernel_rfl) (by kernel_rfl) (by kernel_rfl) (fun _ _ _ h => h) (Or.inl ⟨by rfl, fun w hSw => by (obtain ⟨e0, e1⟩ := hSw; go_simp)⟩) hHeld ?_
      try simp only [List.getElem_toArray, List.getElem_cons_succ, List.getElem_cons_zero, Act.put, List.setIfInBounds_toArray, List.set_cons_zero, List.set_cons_succ]
      refine wpAnyZ_take (i := 22) (v := .pointer (some ⟨bh, oh + i, none⟩)) rfl (by kernel_rfl) (by kernel_rfl) (by kernel_rfl) (by kernel_rfl) (fun _ _ _ h => h) (Or.inl ⟨by rfl, fun w hSw => by (obtain ⟨e0, e1⟩ := hSw; go_simp)⟩) hHeld ?_
      try simp only [List.getElem_toArray, List.getElem_cons_succ, List.getElem_cons_zero, Act.put, List.setIfInBounds_toArray, List.set_cons_zero, List.set_cons_succ]
      refine wpAnyZ_take (i := 23) (v := .int .i64 h) rfl (by kernel_rfl) (by kernel_rfl) (by kernel_rfl) (by kernel_rfl) (fun _ _ _ h => h) (Or.inl ⟨by rfl, fun w hSw => by (obtain ⟨e0, e1⟩ := hSw; go_simp)⟩) hHeld ?_
      try simp only [List.getElem_toArray, List.getElem_cons_succ, List.getElem_cons_zero, Act.put, List.setIfInBounds_toArray, List.set_cons_zero, List.set_cons_succ]
      refine wpAnyZ_take (i := 24) (v := .bool false) rfl (by kernel_rfl) (by kernel_rfl) (by kernel_rfl) (by kernel_rfl) (fun _ _ _ h => h) (Or.inl ⟨by rfl, fun w hSw => by (obtain ⟨e0, e1⟩ := hSw; go_simp)⟩) hHeld ?_
      try simp only [List.getElem_toArray, List.getElem_cons_succ, List.getElem_cons_zero, Act.put, List.setIfInBounds_toArray, List.set_cons_zero, List.set_cons_succ]
      refine wpAnyZ_take (i := 25) (v := .bool false) rfl (by kernel_rfl) (by kernel_rfl) (by kernel_rfl) (by kernel_rfl) (fun _ _ _ h => h) (Or.inl ⟨by rfl, fun w hSw => by (obtain ⟨e0, e1⟩ := hSw; go_simp)⟩) hHeld ?_
      try simp only [List.getElem_toArray, List.getElem_cons_succ, List.getElem_cons_zero, Act.put, List.setIfInBounds_toArray, List.set_cons_zero, List.set_cons_succ]
      refine wpAnyZ_take (i := 26) (v := .bool false) rfl (by kernel_rfl) (by kernel_rfl) (by kernel_rfl) (by kernel_rfl) (fun _ _ _ h => h) (Or.inl ⟨by rfl, fun w hSw => by (obtain ⟨e0, e1⟩ := hSw; go_simp)⟩) hHeld ?_
      try simp only [List.getElem_toArray, List.getElem_cons_succ, List.getElem_cons_zero, Act.put, List.setIfInBounds_toArray, List.set_cons_zero, List.set_cons_succ]
      refine wpAnyZ_take (i := 27) (v := .slice (some ⟨bl, ol, none⟩) n lc) rfl (by kernel_rfl) (by kernel_rfl) (by kernel_rfl) (by kernel_rfl) (fun _ _ _ h => h) (Or.inl ⟨by rfl, fun w hSw => by (obtain ⟨e0, e1⟩ := hSw; go_simp)⟩) hHeld ?_
      try simp only [List.getElem_toArray, List.getElem_cons_succ, List.getElem_cons_zero, Act.put, List.setIfInBounds_toArray, List.set_cons_zero, List.set_cons_succ]
      refine wpAnyZ_take (i := 28) (v := .int .i64 (i : Int)) rfl (by kernel_rfl) (by kernel_rfl) (by kernel_rfl) (by kernel_rfl) (fun _ _ _ h => h) (Or.inl ⟨by rfl, fun w hSw => by (obtain ⟨e0, e1⟩ := hSw; go_simp)⟩) hHeld ?_
      try simp only [List.getElem_toArray, List.getElem_cons_succ, List.getElem_cons_zero, Act.put, List.setIfInBounds_toArray, List.set_cons_zero, List.set_cons_succ]
      refine wpAnyZ_take (i := 29) (v := .pointer (some ⟨bl, ol + i, none⟩)) rfl (by kernel_rfl) (by kernel_rfl) (by kernel_rfl) (by kernel_rfl) (fun _ _ _ h => h) (Or.inl ⟨by rfl, fun w hSw => by (obtain ⟨e0, e1⟩ := hSw; go_simp)⟩) hHeld ?_
      try simp only [List.getElem_toArray, List.getElem_cons_succ, List.getElem_cons_zero, Act.put, List.setIfInBounds_toArray, List.set_cons_zero, List.set_cons_succ]
      refine wpAnyZ_take (i := 30) (v := .int .i64 l) rfl (by kernel_rfl) (by kernel_rfl) (by kernel_rfl) (by kernel_rfl) (fun _ _ _ h => h) (Or.inl ⟨by rfl, fun w hSw => by (obtain ⟨e0, e1⟩ := hSw; go_simp)⟩) hHeld ?_
      try simp only [List.getElem_toArray, List.getElem_cons_succ, List.getElem_cons_zero, Act.put, List.setIfInBounds_toArray, List.set_cons_zero, List.set_cons_succ]
      refine wpAnyZ_take (i := 31) (v := .slice (some ⟨bh, oh, none⟩) n hc) rfl (by kernel_rfl) (by kernel_rfl) (by kernel_rfl) (by kernel_rfl) (fun _ _ _ h => h) (Or.inl ⟨by rfl, fun w hSw => by (obtain ⟨e0, e1⟩ := hSw; go_simp)⟩) hHeld ?_
      try simp only [List.getElem_toArray, List.getElem_cons_succ, List.getElem_cons_zero, Act.put, List.setIfInBounds_toArray, List.set_cons_zero, List.set_cons_succ]
      refine wpAnyZ_take (i := 32) (v := .int .i64 (i : Int)) rfl (by kernel_rfl) (by kernel_rfl) (by kernel_rfl) (by kernel_rfl) (fun _ _ _ h => h) (Or.inl ⟨by rfl, fun w hSw => by (obtain ⟨e0, e1⟩ := hSw; go_simp)⟩) hHeld ?_
      try simp only [List.getElem_toArray, List.getElem_cons_succ, List.getElem_cons_zero, Act.put, List.setIfInBounds_toArray, List.set_cons_zero, List.set_cons_succ]
      refine wpAnyZ_take (i := 33) (v := .pointer (some ⟨bh, oh + i, none⟩)) rfl (by kernel_rfl) (by kernel_rfl) (by kernel_rfl) (by kernel_rfl) (fun _ _ _ h => h) (Or.inl ⟨by rfl, fun w hSw => by (obtain ⟨e0, e1⟩ := hSw; go_simp)⟩) hHeld ?_
      try simp only [List.getElem_toArray, List.getElem_cons_succ, List.getElem_cons_zero, Act.put, List.setIfInBounds_toArray, List.set_cons_zero, List.set_cons_succ]
      refine wpAnyZ_take (i := 34) (v := .int .i64 h) rfl (by kernel_rfl) (by kernel_rfl) (by kernel_rfl) (by kernel_rfl) (fun _ _ _ h => h) (Or.inl ⟨by rfl, fun w hSw => by (obtain ⟨e0, e1⟩ := hSw; go_simp)⟩) hHeld ?_
      try simp only [List.getElem_toArray, List.getElem_cons_succ, List.getElem_cons_zero, Act.put, List.setIfInBounds_toArray, List.set_cons_zero, List.set_cons_succ]
      refine wpAnyZ_take (i := 35) (v := .bool false) rfl (by kernel_rfl) (by kernel_rfl) (by kernel_rfl) (by kernel_rfl) (fun _ _ _ h => h) (Or.inl ⟨by rfl, fun w hSw => by (obtain ⟨e0, e1⟩ := hSw; go_simp)⟩) hHeld ?_
      try simp only [List.getElem_toArray, List.getElem_cons_succ, List.getElem_cons_zero, Act.put, List.setIfInBounds_toArray, List.set_cons_zero, List.set_cons_succ]
      refine wpAnyZ_take (i := 36) (v := .bool false) rfl (by kernel_rfl) (by kernel_rfl) (by kernel_rfl) (by kernel_rfl) (fun _ _ _ h => h) (Or.inl ⟨by rfl, fun w hSw => by (obtain ⟨e0, e1⟩ := hSw; go_simp)⟩) hHeld ?_
      try simp only [List.getElem_toArray, List.getElem_cons_succ, List.getElem_cons_zero, Act.put, List.setIfInBounds_toArray, List.set_cons_zero, List.set_cons_succ]
      refine wpAnyZ_done (by kernel_rfl) ?_ _
      clear hHeld
      go_wp2_with fail
      refine wp_region_Z (S := fun w' => w'.cell? ⟨bl, ol + i, none⟩ = some (.int .i64 l) ∧ w'.cell? ⟨bi, oi + i, none⟩ = some (.int .i64 k) ∧ IMap w' W.heap.size i (keyP (at0 isl) i) fm) (fun i => i == 11) (by kernel_rfl) (⟨cL, cI, HMM.out.same rfl⟩) (fun hHeld => ?_)
      refine wpAnyZ_take (i := 0) (v := .map (some W.heap.size)) rfl (by kernel_rfl) (by kernel_rfl) (by kernel_rfl) (by kernel_rfl) (fun _ _ _ h => h) (Or.inl ⟨by rfl, fun w hSw => by (obtain ⟨e0, e1, e2⟩ := hSw; go_simp)⟩) hHeld ?_
      try simp only [List.getElem_toArray, List.getElem_cons_zero, Act.put, List.setIfInBounds_toArray, List.set_cons_zero, List.set_cons_succ]
      refine wpAnyZ_take (i := 1) (v := .slice (some ⟨bi, oi, none⟩) n ic) rfl (by kernel_rfl) (by kernel_rfl) (by kernel_rfl) (by kernel_rfl) (fun _ _ _ h => h) (Or.inl ⟨by rfl, fun w hSw => by (obtain ⟨e0, e1, e2⟩ := hSw; go_simp)⟩) hHeld ?_
      try simp only [List.getElem_toArray, List.getElem_cons_succ, List.getElem_cons_zero, Act.put, List.setIfInBounds_toArray, List.set_cons_zero, List.set_cons_succ]
      refine wpAnyZ_take (i := 2) (v := .int .i64 (i : Int)) rfl (by kernel_rfl) (by kernel_rfl) (by kernel_rfl) (by kernel_rfl) (fun _ _ _ h => h) (Or.inl ⟨by rfl, fun w hSw => by (obtain ⟨e0, e1, e2⟩ := hSw; go_simp)⟩) hHeld ?_
      try simp only [List.getElem_toArray, List.getElem_cons_succ, List.getElem_cons_zero, Act.put, List.setIfInBounds_toArray, List.set_cons_zero, List.set_cons_succ]
      refine wpAnyZ_take (i := 3) (v := .pointer (some ⟨bi, oi + i, none⟩)) rfl (by kernel_rfl) (by kernel_rfl) (by kernel_rfl) (by kernel_rfl) (fun _ _ _ h => h) (Or.inl ⟨by rfl, fun w hSw => by (obtain ⟨e0, e1, e2⟩ := hSw; go_simp)⟩) hHeld ?_
      try simp only [List.getElem_toArray, List.getElem_cons_succ, List.getElem_cons_zero, Act.put, List.setIfInBounds_toArray, List.set_cons_zero, List.set_cons_succ]
      refine wpAnyZ_take (i := 4) (v := .int .i64 k) rfl (by kernel_rfl) (by kernel_rfl) (by kernel_rfl) (by kernel_rfl) (fun _ _ _ h => h) (Or.inl ⟨by rfl, fun w hSw => by (obtain ⟨e0, e1, e2⟩ := hSw; go_simp)⟩) hHeld ?_
      try simp only [List.getElem_toArray, List.getElem_cons_succ, List.getElem_cons_zero, Act.put, List.setIfInBounds_toArray, List.set_cons_zero, List.set_cons_succ]
      refine wpAnyZ_take (i := 6) (v := .slice (some ⟨bl, ol, none⟩) n lc) rfl (by kernel_rfl) (by kernel_rfl) (by kernel_rfl) (by kernel_rfl) (fun _ _ _ h => h) (Or.inl ⟨by rfl, fun w hSw => by (obtain ⟨e0, e1, e2⟩ := hSw; go_simp)⟩) hHeld ?_
      try simp only [List.getElem_toArray, List.getElem_cons_succ, List.getElem_cons_zero, Act.put, List.setIfInBounds_toArray, List.set_cons_zero, List.set_cons_succ]
      refine wpAnyZ_take (i := 7) (v := .int .i64 (i : Int)) rfl (by kernel_rfl) (by kernel_rfl) (by kernel_rfl) (by kernel_rfl) (fun _ _ _ h => h) (Or.inl ⟨by rfl, fun w hSw => by (obtain ⟨e0, e1, e2⟩ := hSw; go_simp)⟩) hHeld ?_
      try simp only [List.getElem_toArray, List.getElem_cons_succ, List.getElem_cons_zero, Act.put, List.setIfInBounds_toArray, List.set_cons_zero, List.set_cons_succ]
      refine wpAnyZ_take (i := 8) (v := .pointer (some ⟨bl, ol + i, none⟩)) rfl (by kernel_rfl) (by kernel_rfl) (by kernel_rfl) (by kernel_rfl) (fun _ _ _ h => h) (Or.inl ⟨by rfl, fun w hSw => by (obtain ⟨e0, e1, e2⟩ := hSw; go_simp)⟩) hHeld ?_
      try simp only [List.getElem_toArray, List.getElem_cons_succ, List.getElem_cons_zero, Act.put, List.setIfInBounds_toArray, List.set_cons_zero, List.set_cons_succ]
      refine wpAnyZ_take (i := 9) (v := .int .i64 l) rfl (by kernel_rfl) (by kernel_rfl) (by kernel_rfl) (by kernel_rfl) (fun _ _ _ h => h) (Or.inl ⟨by rfl, fun w hSw => by (obtain ⟨e0, e1, e2⟩ := hSw; go_simp)⟩) hHeld ?_
      try simp only [List.getElem_toArray, List.getElem_cons_succ, List.getElem_cons_zero, Act.put, List.setIfInBounds_toArray, List.set_cons_zero, List.set_cons_succ]
      refine wpAnyZ_take (i := 5) (v := .int .i64 (fm k)) rfl (by kernel_rfl) (by kernel_rfl) (by kernel_rfl) (by kernel_rfl) (fun _ _ _ h => h) (Or.inl ⟨by rfl, fun w hSw => by (obtain ⟨e0, e1, e2⟩ := hSw; have hl := e2.look hk64; go_simp)⟩) hHeld ?_
      try simp only [List.getElem_toArray, List.getElem_cons_succ, List.getElem_cons_zero, Act.put, List.setIfInBounds_toArray, List.set_cons_zero, List.set_cons_succ]
      refine wpAnyZ_take (i := 10) (v := .int .i64 (fm k - l)) rfl (by kernel_rfl) (by kernel_rfl) (by kernel_rfl) (by kernel_rfl) (fun _ _ _ h => h) (Or.inl ⟨by rfl, fun w hSw => by (obtain ⟨e0, e1, e2⟩ := hSw; go_simp)⟩) hHeld ?_
      try simp only [List.getElem_toArray, List.getElem_cons_succ, List.getElem_cons_zero, Act.put, List.setIfInBounds_toArray, List.set_cons_zero, List.set_cons_succ]
      refine wpAnyZ_ready (rs := [11]) (by kernel_rfl) (by simp) ?_
      refine AllReadyZ.last rfl rfl (fun Kc hK => ?_) AllReadyZ.nil
      rw [if_pos (by rfl)]
      refine wp_store_imap _ _ _ _ rfl W.heap.size i (keyP (at0 isl) i) fm k (fm k - l) rfl rfl rfl (HMM.out.same rfl) (by omega) hk64 (by unfold isI64; omega) ?_
      intro w4 hM4 hT4
      refine hK.out _ _ ?_
      clear hK Kc
      try simp only [List.getElem_toArray, List.getElem_cons_succ, List.getElem_cons_zero, Act.put]
      refine wpAnyZ_done (by kernel_rfl) ?_ _
      clear hHeld
      go_wp2_with fail
      have cL4 := hT4.cell (p := ⟨bl, ol + i, none⟩) (by simp only; omega) (show wr.drew.drew.cell? _ = _ from cL)
      have cH4 := hT4.cell (p := ⟨bh, oh + i, none⟩) (by simp only; omega) (show wr.drew.drew.cell? _ = _ from cH)
      have cI4 := hT4.cell (p := ⟨bi, oi + i, none⟩) (by simp only; omega) (show wr.drew.drew.cell? _ = _ from cI)
      have hMR4 : IMap w4 (W.heap.size + 1) i (keyP (at0 isl) i) fr := (HMR.out.same rfl : IMap wr.drew.drew _ _ _ _).turn hT4 (by omega)
      have HMR4 := Lib.hid hMR4
      clear hMR4
      refine wp_region_Z (S := fun w' => w'.cell? ⟨bl, ol + i, none⟩ = some (.int .i64 l) ∧ w'.cell? ⟨bh, oh + i, none⟩ = some (.int .i64 h) ∧ w'.cell? ⟨bi, oi + i, none⟩ = some (.int .i64 k) ∧ IMap w' (W.heap.size + 1) i (keyP (at0 isl) i) fr) (fun i => i == 16) (by kernel_rfl) (⟨cL4, cH4, cI4, HMR4.out.same rfl⟩) (fun hHeld => ?_)
      refine wpAnyZ_take (i := 0) (v := .map (some (W.heap.size + 1))) rfl (by kernel_rfl) (by kernel_rfl) (by kernel_rfl) (by kernel_rfl) (fun _ _ _ h => h) (Or.inl ⟨by rfl, fun w hSw => by (obtain ⟨e0, e1, e2, e3⟩ := hSw; go_simp)⟩) hHeld ?_
      try simp only [List.getElem_toArray, List.getElem_cons_zero, Act.put, List.setIfInBounds_toArray, List.set_cons_zero, List.set_cons_succ]
      refine wpAnyZ_take (i := 1) (v := .slice (some ⟨bi, oi, none⟩) n ic) rfl (by kernel_rfl) (by kernel_rfl) (by kernel_rfl) (by kernel_rfl) (fun _ _ _ h => h) (Or.inl ⟨by rfl, fun w hSw => by (obtain ⟨e0, e1, e2, e3⟩ := hSw; go_simp)⟩) hHeld ?_
      try simp only [List.getElem_toArray, List.getElem_cons_succ, List.getElem_cons_zero, Act.put, List.setIfInBounds_toArray, List.set_cons_zero, List.set_cons_succ]
      refine wpAnyZ_take (i := 2) (v := .int .i64 (i : Int)) rfl (by kernel_rfl) (by kernel_rfl) (by kernel_rfl) (by kernel_rfl) (fun _ _ _ h => h) (Or.inl ⟨by rfl, fun w hSw => by (obtain ⟨e0, e1, e2, e3⟩ := hSw; go_simp)⟩) hHeld ?_
      try simp only [List.getElem_toArray, List.getElem_cons_succ, List.getElem_cons_zero, Act.put, List.setIfInBounds_toArray, List.set_cons_zero, List.set_cons_succ]
      refine wpAnyZ_take (i := 3) (v := .pointer (some ⟨bi, oi + i, none⟩)) rfl (by kernel_rfl) (by kernel_rfl) (by kernel_rfl) (by kernel_rfl) (fun _ _ _ h => h) (Or.inl ⟨by rfl, fun w hSw => by (obtain ⟨e0, e1, e2, e3⟩ := hSw; go_simp)⟩) hHeld ?_
      try simp only [List.getElem_toArray, List.getElem_cons_succ, List.getElem_cons_zero, Act.put, List.setIfInBounds_toArray, List.set_cons_zero, List.set_cons_succ]
      refine wpAnyZ_take (i := 4) (v := .int .i64 k) rfl (by kernel_rfl) (by kernel_rfl) (by kernel_rfl) (by kernel_rfl) (fun _ _ _ h => h) (Or.inl ⟨by rfl, fun w hSw => by (obtain ⟨e0, e1, e2, e3⟩ := hSw; go_simp)⟩) hHeld ?_
      try simp only [List.getElem_toArray, List.getElem_cons_succ, List.getElem_cons_zero, Act.put, List.setIfInBounds_toArray, List.set_cons_zero, List.set_cons_succ]
      refine wpAnyZ_take (i := 6) (v := .slice (some ⟨bh, oh, none⟩) n hc) rfl (by kernel_rfl) (by kernel_rfl) (by kernel_rfl) (by kernel_rfl) (fun _ _ _ h => h) (Or.inl ⟨by rfl, fun w hSw => by (obtain ⟨e0, e1, e2, e3⟩ := hSw; go_simp)⟩) hHeld ?_
      try simp only [List.getElem_toArray, List.getElem_cons_succ, List.getElem_cons_zero, Act.put, List.setIfInBounds_toArray, List.set_cons_zero, List.set_cons_succ]
      refine wpAnyZ_take (i := 7) (v := .int .i64 (i : Int)) rfl (by kernel_rfl) (by kernel_rfl) (by kernel_rfl) (by kernel_rfl) (fun _ _ _ h => h) (Or.inl ⟨by rfl, fun w hSw => by (obtain ⟨e0, e1, e2, e3⟩ := hSw; go_simp)⟩) hHeld ?_
      try simp only [List.getElem_toArray, List.getElem_cons_succ, List.getElem_cons_zero, Act.put, List.setIfInBounds_toArray, List.set_cons_zero, List.set_cons_succ]
      refine wpAnyZ_take (i := 8) (v := .pointer (some ⟨bh, oh + i, none⟩)) rfl (by kernel_rfl) (by kernel_rfl) (by kernel_rfl) (by kernel_rfl) (fun _ _ _ h => h) (Or.inl ⟨by rfl, fun w hSw => by (obtain ⟨e0, e1, e2, e3⟩ := hSw; go_simp)⟩) hHeld ?_
      try simp only [List.getElem_toArray, List.getElem_cons_succ, List.getElem_cons_zero, Act.put, List.setIfInBounds_toArray, List.set_cons_zero, List.set_cons_succ]
      refine wpAnyZ_take (i := 9) (v := .int .i64 h) rfl (by kernel_rfl) (by kernel_rfl) (by kernel_rfl) (by kernel_rfl) (fun _ _ _ h => h) (Or.inl ⟨by rfl, fun w hSw => by (obtain ⟨e0, e1, e2, e3⟩ := hSw; go_simp)⟩) hHeld ?_
      try simp only [List.getElem_toArray, List.getElem_cons_succ, List.getElem_cons_zero, Act.put, List.setIfInBounds_toArray, List.set_cons_zero, List.set_cons_succ]
      refine wpAnyZ_take (i := 10) (v := .slice (some ⟨bl, ol, none⟩) n lc) rfl (by kernel_rfl) (by kernel_rfl) (by kernel_rfl) (by kernel_rfl) (fun _ _ _ h => h) (Or.inl ⟨by rfl, fun w hSw => by (obtain ⟨e0, e1, e2, e3⟩ := hSw; go_simp)⟩) hHeld ?_
      try simp only [List.getElem_toArray, List.getElem_cons_succ, List.getElem_cons_zero, Act.put, List.setIfInBounds_toArray, List.set_cons_zero, List.set_cons_succ]
      refine wpAnyZ_take (i := 11) (v := .int .i64 (i : Int)) rfl (by kernel_rfl) (by kernel_rfl) (by kernel_rfl) (by kernel_rfl) (fun _ _ _ h => h) (Or.inl ⟨by rfl, fun w hSw => by (obtain ⟨e0, e1, e2, e3⟩ := hSw; go_simp)⟩) hHeld ?_
      try simp only [List.getElem_toArray, List.getElem_cons_succ, List.getElem_cons_zero, Act.put, List.setIfInBounds_toArray, List.set_cons_zero, List.set_cons_succ]
      refine wpAnyZ_take (i := 12) (v := .pointer (some ⟨bl, ol + i, none⟩)) rfl (by kernel_rfl) (by kernel_rfl) (by kernel_rfl) (by kernel_rfl) (fun _ _ _ h => h) (Or.inl ⟨by rfl, fun w hSw => by (obtain ⟨e0, e1, e2, e3⟩ := hSw; go_simp)⟩) hHeld ?_
      try simp only [List.getElem_toArray, List.getElem_cons_succ, List.getElem_cons_zero, Act.put, List.setIfInBounds_toArray, List.set_cons_zero, List.set_cons_succ]
      refine wpAnyZ_take (i := 13) (v := .int .i64 l) rfl (by kernel_rfl) (by kernel_rfl) (by kernel_rfl) (by kernel_rfl) (fun _ _ _ h => h) (Or.inl ⟨by rfl, fun w hSw => by (obtain ⟨e0, e1, e2, e3⟩ := hSw; go_simp)⟩) hHeld ?_
      try simp only [List.getElem_toArray, List.getElem_cons_succ, List.getElem_cons_zero, Act.put, List.setIfInBounds_toArray, List.set_cons_zero, List.set_cons_succ]
      refine wpAnyZ_take (i := 5) (v := .int .i64 (fr k)) rfl (by kernel_rfl) (by kernel_rfl) (by kernel_rfl) (by kernel_rfl) (fun _ _ _ h => h) (Or.inl ⟨by rfl, fun w hSw => by (obtain ⟨e0, e1, e2, e3⟩ := hSw; have hl := e3.look hk64; go_simp)⟩) hHeld ?_
      try simp only [List.getElem_toArray, List.getElem_cons_succ, List.getElem_cons_zero, Act.put, List.setIfInBounds_toArray, List.set_cons_zero, List.set_cons_succ]
      refine wpAnyZ_take (i := 14) (v := .int .i64 (h - l)) rfl (by kernel_rfl) (by kernel_rfl) (by kernel_rfl) (by kernel_rfl) (fun _ _ _ h => h) (Or.inl ⟨by rfl, fun w hSw => by (obtain ⟨e0, e1, e2, e3⟩ := hSw; go_simp)⟩) hHeld ?_
      try simp only [List.getElem_toArray, List.getElem_cons_succ, List.getElem_cons_zero, Act.put, List.setIfInBounds_toArray, List.set_cons_zero, List.set_cons_succ]
      refine wpAnyZ_take (i := 15) (v := .int .i64 (fr k + (h - l))) rfl (by kernel_rfl) (by kernel_rfl) (by kernel_rfl) (by kernel_rfl) (fun _ _ _ h => h) (Or.inl ⟨by rfl, fun w hSw => by (obtain ⟨e0, e1, e2, e3⟩ := hSw; go_simp)⟩) hHeld ?_
      try simp only [List.getElem_toArray, List.getElem_cons_succ, List.getElem_cons_zero, Act.put, List.setIfInBounds_toArray, List.set_cons_zero, List.set_cons_succ]
      refine wpAnyZ_ready (rs := [16]) (by kernel_rfl) (by simp) ?_
      refine AllReadyZ.last rfl rfl (fun Kc hK => ?_) AllReadyZ.nil
      rw [if_pos (by rfl)]
      refine wp_store_imap _ _ _ _ rfl (W.heap.size + 1) i (keyP (at0 isl) i) fr k (fr k + (h - l)) rfl rfl rfl (HMR4.out.same rfl) (by omega) hk64 (by unfold isI64; omega) ?_
      intro w5 hM5 hT5
      refine hK.out _ _ ?_
      clear hK Kc
      try simp only [List.getElem_toArray, List.getElem_cons_succ, List.getElem_cons_zero, Act.put]
      refine wpAnyZ_done (by kernel_rfl) ?_ _
      clear hHeld
      go_wp2_with fail
      have hm5 : IMap w5 W.heap.size (i + 1) (keyP (at0 isl) (i + 1)) (missF (at0 lo) (at0 isl) (i + 1)) := ((show IMap w4.drew W.heap.size (i + 1) _ _ from hM4.same rfl).turn hT5 (show W.heap.size ≠ W.heap.size + 1 by omega)).keys HKS.out HMS.out
      have hr5 : IMap w5 (W.heap.size + 1) (i + 1) (keyP (at0 isl) (i + 1)) (roomF (at0 lo) (at0 hi) (at0 isl) (i + 1)) := hM5.keys HKS.out HRM.out
      exact ⟨⟨i + 1, by omega, ⟨hT5.ext (hT4.ext (HAT.out.ext.drew.drew) (by omega)).drew (by omega), hT5.arr (by omega) (hT4.arr (by omega) HAT.out.box), hT5.arr (by omega) (hT4.arr (by omega) HAT.out.r1), hT5.arr (by omega) (hT4.arr (by omega) HAT.out.r2), hm5, hr5⟩, by go_num⟩, by simp only [intOf]; omega⟩
    · obtain rfl : i = n := by omega
      clear hi0 hlt
      have hMm := hAt.miss
      have hrm := hAt.room.lt
      have hmb := HBOX.out.miss (at0 isl)
      have hfm : ∀ k, missF (at0 lo) (at0 isl) i k ≤ 1099511627776 := fun k => by have := hmb k i (Nat.le_refl _) (by omega); omega
      have hfz : ∀ k, ¬ keyP (at0 isl) i k → missF (at0 lo) (at0 isl) i k = 0 := by
        intro k hk
        obtain ⟨D, ⟨es, clock, hb, F, hs, hD⟩, h2, h3⟩ := hMm
        have hh : Maps.has D (.int .i64 k) = false := by
          cases hq : Maps.has D (.int .i64 k) with
          | false => rfl
          | true => exact absurd ((h2 k).1 hq) hk
        have := h3 k
        rw [Maps.atKey_of_not_has hh] at this
        simp only [DataW.lit.injEq, Lit.int.injEq, true_and] at this
        exact this.symm
      have HAT := Lib.hid hAt
      have HMM := Lib.hid hMm
      have hRoo := hAt.room
      have HROO := Lib.hid hRoo
      clear hAt hMm hmb hRoo
      generalize keyP (at0 isl) i = K at *
      generalize missF (at0 lo) (at0 isl) i = fm at *
      generalize roomF (at0 lo) (at0 hi) (at0 isl) i = fr at *
      clear hfm hfz
      obtain ⟨rr, hrr⟩ : ∃ rr, rr = wr.heap.size := ⟨_, rfl⟩
      have hrr1 : W.heap.size + 1 < rr := by omega
      have HRR := Lib.hid hrr
      obtain ⟨kb, hkb, hkbad⟩ := HG.out
      have HKB := Lib.hid hkbad
      clear hkbad
      go_wp2_with (at_range; refine wpList_range_imap _ rfl _ rfl W.heap.size i K fm rfl HMM.out ?_; intro w6 cnt0 hr6 x6 z6)
      rw [← hrr] at hr6 ⊢
      have S6 : Hid (RgAt w W rr i ta tc K fm fr K cnt0 w6) := ⟨HAT.out.ext.trans x6, HAT.out.box.ext x6, HAT.out.r1.ext x6, HAT.out.r2.ext x6, hr6, fun k hk => hk, HROO.out.ext x6⟩
      clear hrr hr6 x6 z6
      go_frame
      go_loopw [15] (fun _ wq => ∃ (left : Int → Prop) (cnt : Nat), RgAt w W rr i ta tc K fm fr left cnt wq ∧ left kb) (fun _ wq => wq.rangeLeft W.heap.size rr)
      case atStart => exact ⟨K, cnt0, S6.out, hkb⟩
      case round =>
        obtain ⟨left, cnt, hRg, hlkb⟩ := hrel
        have HRg := Lib.hid hRg
        clear hRg S6
        go_wp2_with (at_next; refine wpList_next_imap _ rfl _ rfl W.heap.size rr i K fm left cnt rfl HRg.out.rg ?_ ?_)
        · intro hl0
          exact absurd hlkb (hl0 kb)
        · intro x w7 cnt7 hx64 hlx hfx hr7 hlt7 hT7 hen
          have hM7 := HRg.out.room.turn hT7 (show W.heap.size + 1 ≠ rr by omega)
          have hlook := hM7.look hx64
          have E7 : Ext w w7 := hT7.ext HRg.out.ext (by omega)
          have P7 := hT7.arr (by omega) HRg.out.r1
          have Q7 : Arr w7 (w.heap.size + 1 + 1) 55 zero3 := hT7.arr (by omega) HRg.out.r2
          by_cases hgx : 0 ≤ fm x
          · have t1 : decide (fm x < 0) = false := by simp; omega
            by_cases hgy : fm x ≤ fr x
            · have t2 : decide (fr x < fm x) = false := by simp; omega
              have hne : kb ≠ x := by
                rintro rfl
                exact HKB.out ⟨hgx, hgy⟩
              have S7 : Hid (RgAt w W rr i ta tc K fm fr (fun k => left k ∧ k ≠ x) cnt7 w7) := ⟨E7, hT7.arr (by omega) HRg.out.box, P7, Q7, hr7, fun k hk => HRg.out.sub k hk.1, hM7⟩
              have hms : w7.rangeLeft W.heap.size rr < wr.rangeLeft W.heap.size rr := by rw [hr7.left_eq, HRg.out.rg.left_eq]; exact hlt7
              clear hM7 hr7 hT7 P7 Q7
              go_wp2_with fail
              exact ⟨⟨_, cnt7, S7.out, hlkb, hne⟩, hms⟩
            · have t2 : decide (fr x < fm x) = true := by simp; omega
              obtain ⟨p0, p1, p2, p3, p4, p5⟩ := box3 P7 (Ext.refl _)
              obtain ⟨q0, q1, q2, q3, q4, q5⟩ := box3 Q7 (Ext.refl _)
              clear P7 Q7 hr7 hT7
              go_wp2_with fail
              refine bodyPost_ret (v := .tuple #[.agg #[.bool false, .slice none 0 0, .slice none 0 0], .agg #[.bool false, .slice none 0 0, .slice none 0 0], .bool false]) (by simp [results, Tryz.results25, go_sem, *]) rfl ⟨rfl, ?_⟩
              exact Ext.set3' (Ext.set3' E7 (by omega)) (by omega)
          · have t1 : decide (fm x < 0) = true := by simp; omega
            obtain ⟨p0, p1, p2, p3, p4, p5⟩ := box3 P7 (Ext.refl _)
            obtain ⟨q0, q1, q2, q3, q4, q5⟩ := box3 Q7 (Ext.refl _)
            clear P7 Q7 hr7 hT7
            go_wp2_with fail
            refine bodyPost_ret (v := .tuple #[.agg #[.bool false, .slice none 0 0, .slice none 0 0], .agg #[.bool false, .slice none 0 0, .slice none 0 0], .bool false]) (by simp [results, Tryz.results25, go_sem, *]) rfl ⟨rfl, ?_⟩
            exact Ext.set3' (Ext.set3' E7 (by omega)) (by omega)

end Go.Proofs.YtgihpfkjpfanmaaGreat


namespace Go.Proofs.YtgihpfkjpfanmaaGreat
open Go.RowKit

/-- A slice of int that the call itself has made, in a block from B to U. -/
structure MyInts (w : World) (B U : Nat) (a : Option Addr) (c : Nat) (xs : List Int) : Prop where
  le : xs.length ≤ c
  cap : c ≤ 9223372036854775807
  cell : ∀ i (h : i < xs.length), ∃ g, a = some ⟨g, 0, none⟩ ∧ B ≤ g ∧ g < U ∧ w.cell? ⟨g, i, none⟩ = some (.int .i64 xs[i]) ∧ w.frozen? ⟨g, i, none⟩ = false

theorem MyInts.ext {w w' : World} {B U : Nat} {a : Option Addr} {c : Nat} {xs : List Int} (h : MyInts w B U a c xs) (e : Ext w w') : MyInts w' B U a c xs :=
  ⟨h.le, h.cap, fun i hi => by
    obtain ⟨g, h1, h2, h3, h4, h5⟩ := h.cell i hi
    exact ⟨g, h1, h2, h3, cell_ext e h4, froz_ext e h4 h5⟩⟩
theorem MyInts.at {w : World} {B U : Nat} {a : Option Addr} {c : Nat} {xs : List Int} (h : MyInts w B U a c xs) (h0 : 0 < xs.length) : ∃ g, a = some ⟨g, 0, none⟩ ∧ B ≤ g ∧ g < U := by
  obtain ⟨g, h1, h2, h3, _⟩ := h.cell 0 h0
  exact ⟨g, h1, h2, h3⟩
theorem MyInts.get {w : World} {B U g c : Nat} {xs : List Int} (h : MyInts w B U (some ⟨g, 0, none⟩) c xs) (i : Nat) (hi : i < xs.length) : w.cell? ⟨g, i, none⟩ = some (.int .i64 xs[i]) ∧ w.frozen? ⟨g, i, none⟩ = false := by
  obtain ⟨g', e, _, _, h4, h5⟩ := h.cell i hi
  cases e
  exact ⟨h4, h5⟩
theorem MyInts.other {w : World} {B U : Nat} {a : Option Addr} {c : Nat} {xs : List Int} (h : MyInts w B U a c xs) (p : Addr) (v : Value) (hp : p.block < B ∨ U ≤ p.block) : MyInts (w.setCell p v) B U a c xs :=
  ⟨h.le, h.cap, fun i hi => by
    obtain ⟨g, h1, h2, h3, h4, h5⟩ := h.cell i hi
    refine ⟨g, h1, h2, h3, ?_, by rw [World.frozen?_setCell]; exact h5⟩
    rw [World.cell?_setCell_far _ _ _ _ (by simp only; omega)]; exact h4⟩
theorem MyInts.set {w : World} {B U g c : Nat} {xs : List Int} (h : MyInts w B U (some ⟨g, 0, none⟩) c xs) (j : Nat) (x : Int) : MyInts (w.setCell ⟨g, j, none⟩ (.int .i64 x)) B U (some ⟨g, 0, none⟩) c (xs.set j x) :=
  ⟨by rw [List.length_set]; exact h.le, h.cap, fun i hi => by
    rw [List.length_set] at hi
    obtain ⟨g', e, h2, h3, h4, h5⟩ := h.cell i hi
    cases e
    refine ⟨g, rfl, h2, h3, ?_, by rw [World.frozen?_setCell]; exact h5⟩
    by_cases hij : j = i
    · subst hij
      rw [List.getElem_set_self]
      exact World.cell?_setCell_same _ _ _ h4
    · rw [List.getElem_set_ne hij, World.cell?_setCell_other _ _ _ _ (by intro e; simp only [Addr.mk.injEq] at e; omega)]; exact h4⟩
theorem MyInts.intIn {w : World} {B U : Nat} {a : Option Addr} {c : Nat} {xs : List Int} (h : MyInts w B U a c xs) (hr : ∀ i (hi : i < xs.length), -9223372036854775808 ≤ xs[i] ∧ xs[i] < 9223372036854775808) : IntIn w a c xs :=
  ⟨h.le, h.cap, fun i hi => by
    obtain ⟨g, h1, _, _, h4, _⟩ := h.cell i hi
    exact ⟨g, 0, h1, by rw [Nat.zero_add]; exact h4⟩, hr⟩

def fitV (xs : List Int) (m : Int) (i : Nat) : Int := if i < xs.length then modU (at0 xs i) m else 0
def fitL (xs : List Int) (n : Nat) (m : Int) : List Int := (List.range n).map (fitV xs m)
theorem fitL_length (xs : List Int) (n : Nat) (m : Int) : (fitL xs n m).length = n := by simp [fitL]
theorem fitV_range (xs : List Int) (m : Int) (hm : 0 < m) (i : Nat) : 0 ≤ fitV xs m i ∧ fitV xs m i < m := by
  unfold fitV
  split
  · exact modU_range _ _ hm
  · omega

theorem MyInts.ofRow {w wr : World} {v : Value} {xs : List Int} (h : wr.ownsRow w.heap.size 3 1 v xs.length (i64s xs)) : ∃ a c, v = .slice a xs.length c ∧ MyInts wr w.heap.size wr.heap.size a c xs := by
  rcases h.2 with ⟨rfl, h0⟩ | ⟨g, cap, cur, rfl, hb, hg, hn, hcap, hcs, htake⟩
  · exact ⟨none, 0, by rw [h0], by omega, by omega, fun i hi => by omega⟩
  · refine ⟨some ⟨g, 0, none⟩, cap, rfl, hn, by unfold maxLen at hcap; omega, fun i hi => ⟨g, rfl, hb, (Array.getElem?_eq_some_iff.1 hg).1, ?_, ?_⟩⟩
    · have h3 : (cur.toList.take (xs.length * 1))[i]? = (i64s xs)[i]? := by rw [htake]
      rw [i64s_get xs i hi, List.getElem?_take, if_pos (by omega)] at h3
      simp only [World.cell?, hg]
      simpa using h3
    · simp [World.frozen?, hg]

set_option maxHeartbeats 2000000 in
set_option maxRecDepth 100000 in
theorem sc_fit (w : World) (ta la : Option Addr) (n tc lc : Nat) (xs : List Int) (m : Int) (h : IntIn w la lc xs) (hn : n ≤ 1000) (hm : 0 < m) (hm2 : m < 1000000) (_hx : xs.length ≤ 1000) :
    Calls Tryz.prog 24 #[.slice ta n tc, .slice la xs.length lc, .int .i64 m] w fun e w' => ∃ a c, e = .returned (.slice a n c) ∧ MyInts w' w.heap.size w'.heap.size a c (fitL xs n m) ∧ Ext w w' := by
  have HI := Lib.hid h
  clear h
  go_enter Tryz.func24, Tryz.ntmps24
  go_wp2_with fail
  go_loopw [7, 8] (fun v ii wr => ∃ i : Nat, i ≤ n ∧ wr.ownsRow w.heap.size 3 1 v i (i64s (fitL xs i m)) ∧ Ext w wr ∧ ii = .int .i64 i) (fun _ ii _ => n - (intOf ii).toNat)
  case atStart => exact ⟨0, Nat.zero_le _, ⟨rfl, .inl ⟨rfl, rfl⟩⟩, Ext.refl _, rfl⟩
  case round =>
    obtain ⟨i, hi, hown, hE, rfl⟩ := hrel
    have HOWN := Lib.hid hown
    clear hown
    by_cases hlt : i < n
    · have hstep : i64s (fitL xs (i + 1) m) = i64s (fitL xs i m) ++ [.int .i64 (fitV xs m i)] := by simp [i64s, fitL, List.range_succ]
      have HST := Lib.hid hstep
      clear hstep
      by_cases hil : i < xs.length
      · obtain ⟨b, o, rfl, c0⟩ := (HI.out.ext hE).cell i hil
        obtain ⟨r1, r2⟩ := HI.out.rng i hil
        have hv : fitV xs m i = modU xs[i] m := by unfold fitV; rw [if_pos hil, at0_eq hil]
        have HV := Lib.hid hv
        clear hv
        generalize xs[i] = x at *
        go_wp2_with fail
        refine (make_Mod _ x m r1 r2 hm hm2).mono ?_
        rintro e w1 ⟨rfl, rfl⟩
        go_wp2_with (at_builtin; refine wpList_append_at _ rfl (.tmp 26) (.tmp 28) 22 rfl w.heap.size 3 (.int .i64 0) 1 8 Tryz.underlying22 Tryz.info_int rfl (by decide) u7 i (i64s (fitL xs i m)) rfl ?c1 (some ⟨wr.heap.size, 0, none⟩) 1 1 [.int .i64 (modU x m)] rfl rfl ?c2 ?c3 ?c4 ?c5 (by decide) ?c6 ?_; rotate_right; intro v1 w5 ho he hb hz hv)
        case c1 => exact ownsRow_ext HOWN.out ((Ext.refl _).alloc _)
        case c2 => exact fun _ => ⟨_, rfl, cells_new wr 3 [.int .i64 (modU x m)]⟩
        case c3 => intro u hu; rw [List.mem_singleton] at hu; subst hu; rfl
        case c4 => intro e; cases e
        case c5 => omega
        case c6 => have := hE.size; simp; omega
        have x5 : Ext w w5 := he.out w (hE.alloc _) (Nat.le_refl _)
        have ho' := ho.out
        rw [← HV.out, ← HST.out] at ho'
        exact ⟨⟨i + 1, by omega, ho', x5, by go_num⟩, by simp only [intOf]; omega⟩
      · have hv : fitV xs m i = 0 := by unfold fitV; rw [if_neg hil]
        have HV := Lib.hid hv
        clear hv
        go_wp2_with (at_builtin; refine wpList_append_at _ rfl (.tmp 26) (.tmp 28) 22 rfl w.heap.size 3 (.int .i64 0) 1 8 Tryz.underlying22 Tryz.info_int rfl (by decide) u7 i (i64s (fitL xs i m)) rfl ?c1 (some ⟨wr.heap.size, 0, none⟩) 1 1 [.int .i64 (0)] rfl rfl ?c2 ?c3 ?c4 ?c5 (by decide) ?c6 ?_; rotate_right; intro v1 w5 ho he hb hz hv)
        case c1 => exact ownsRow_ext HOWN.out ((Ext.refl _).alloc _)
        case c2 => exact fun _ => ⟨_, rfl, cells_new wr 3 [.int .i64 (0)]⟩
        case c3 => intro u hu; rw [List.mem_singleton] at hu; subst hu; rfl
        case c4 => intro e; cases e
        case c5 => omega
        case c6 => have := hE.size; simp; omega
        have x5 : Ext w w5 := he.out w (hE.alloc _) (Nat.le_refl _)
        have ho' := ho.out
        rw [← HV.out, ← HST.out] at ho'
        exact ⟨⟨i + 1, by omega, ho', x5, by go_num⟩, by simp only [intOf]; omega⟩
    · obtain rfl : i = n := by omega
      obtain ⟨a, c, rfl, hMy⟩ := MyInts.ofRow (w := w) (wr := wr) (v := u7) (xs := fitL xs i m) (by rw [fitL_length]; exact HOWN.out)
      rw [fitL_length]
      have HMY := Lib.hid hMy
      clear hMy HOWN
      go_wp2_with fail
      go_ret
      exact ⟨a, c, rfl, HMY.out, hE⟩

end Go.Proofs.YtgihpfkjpfanmaaGreat


namespace Go.Proofs.YtgihpfkjpfanmaaGreat
open Go.RowKit

theorem two_rats (w : World) (r1 r2 : RVal) (q1 q2 : Rat) (B1 B2 b : Nat) (T : TypeId) (h1 : IsCan w r1 q1 B1) (h2 : IsCan w r2 q2 B2) (z1 : rsz q1 ≤ 2) (z2 : rsz q2 ≤ 2)
    (hA : Arr w b T [.bool r1.s, .slice r1.a r1.k r1.c, .slice r1.b r1.j r1.d, .bool r2.s, .slice r2.a r2.k r2.c, .slice r2.b r2.j r2.d]) : Rats w (some ⟨b, 0, none⟩) 2 [r1, r2] [q1, q2] 2 := by
  refine ⟨rfl, by simp, by decide, by simp, ?_, ?_⟩
  · intro i hi
    have hi' : i < 2 := hi
    rcases (show i = 0 ∨ i = 1 by omega) with rfl | rfl <;> exact ⟨b, 0, rfl, hA.cell _, hA.cell _, hA.cell _⟩
  · intro i hi
    have hi' : i < 2 := hi
    rcases (show i = 0 ∨ i = 1 by omega) with rfl | rfl
    · exact h1.isRat.mono z1
    · exact h2.isRat.mono z2
theorem two_ints (w : World) (b : Nat) (x y : Int) (hx : -1000 ≤ x ∧ x ≤ 1000) (hy : -1000 ≤ y ∧ y ≤ 1000) (hA : Arr w b 3 [.int .i64 x, .int .i64 y]) : IntIn w (some ⟨b, 0, none⟩) 2 [x, y] := by
  refine ⟨by simp, by decide, ?_, ?_⟩
  · intro i hi
    have hi' : i < 2 := hi
    rcases (show i = 0 ∨ i = 1 by omega) with rfl | rfl <;> exact ⟨b, 0, rfl, hA.cell _⟩
  · intro i hi
    have hi' : i < 2 := hi
    rcases (show i = 0 ∨ i = 1 by omega) with rfl | rfl <;> simp <;> omega

theorem perm_two {l : List Nat} (h : l.Perm [0, 1]) : l = [0, 1] ∨ l = [1, 0] := by
  have hl : l.length = 2 := h.length_eq
  match l, hl with
  | [a, b], _ =>
    have ha : a ∈ [0, 1] := h.mem_iff.1 (by simp)
    have hb : b ∈ [0, 1] := h.mem_iff.1 (by simp)
    have hn : [a, b].Nodup := h.nodup_iff.2 (by decide)
    simp at ha hb hn
    rcases ha with rfl | rfl <;> rcases hb with rfl | rfl <;> simp_all

def exT : List Rat := [mkRat 1 2, mkRat (-1) 4]
theorem ex_order : scOrder exT 2 = [1, 0] := by
  have hp := scOrder_perm exT 2
  have hs := scOrder_sorted exT 2
  rcases perm_two hp with h | h
  · rw [h] at hs
    have := (List.pairwise_cons.1 hs).1 1 (by simp)
    exact absurd this (by decide +kernel)
  · exact h
theorem ex_least : fillSum (atQ exT) (at0 [0, -6]) (at0 [10, 4]) (at0 [0, 0]) (scOrder exT 2) (missF (at0 [0, -6]) (at0 [0, 0]) 2) = 0 := by
  rw [ex_order]; decide +kernel
theorem ex_greatest : fillSum (atQ exT) (at0 [0, -6]) (at0 [10, 4]) (at0 [0, 0]) (scOrder exT 2).reverse (missF (at0 [0, -6]) (at0 [0, 0]) 2) = mkRat 9 2 := by
  rw [ex_order]; decide +kernel

theorem ex_first (V : World) (r1 r2 : RVal) (B1 B2 b : Nat) (h1 : IsCan V r1 (mkRat 1 2) B1) (h2 : IsCan V r2 (mkRat (-1) 4) B2) (hA : Arr V b 55 [.bool r1.s, .slice r1.a r1.k r1.c, .slice r1.b r1.j r1.d, .bool r2.s, .slice r2.a r2.k r2.c, .slice r2.b r2.j r2.d])
    (bl bh bi : Nat) (hl : Arr V bl 3 [.int .i64 0, .int .i64 (-6)]) (hh : Arr V bh 3 [.int .i64 10, .int .i64 4]) (hi : Arr V bi 3 [.int .i64 0, .int .i64 0]) :
    Calls Tryz.prog 25 #[.slice (some ⟨b, 0, none⟩) 2 2, .slice (some ⟨bl, 0, none⟩) 2 2, .slice (some ⟨bh, 0, none⟩) 2 2, .slice (some ⟨bi, 0, none⟩) 2 2] V (ExRes V 0 (mkRat 9 2)) := by
  have h5 := sc_extreme_ok V (some ⟨b, 0, none⟩) (some ⟨bl, 0, none⟩) (some ⟨bh, 0, none⟩) (some ⟨bi, 0, none⟩) 2 2 2 2 2 2 [r1, r2] exT [0, -6] [10, 4] [0, 0] (two_rats V r1 r2 _ _ B1 B2 b _ h1 h2 (by decide +kernel) (by decide +kernel) hA) (two_ints V bl 0 (-6) (by omega) (by omega) hl) (two_ints V bh 10 4 (by omega) (by omega) hh) (two_ints V bi 0 0 (by omega) (by omega) hi) rfl rfl rfl rfl (by omega) (by omega) (by
      intro i hi
      rcases (show i = 0 ∨ i = 1 by omega) with rfl | rfl <;> decide) (by
      rintro k ⟨j, hj, rfl⟩
      rcases (show j = 0 ∨ j = 1 by omega) with rfl | rfl <;> decide)
  rw [ex_least, ex_greatest] at h5
  exact h5
theorem ex_second (V : World) (r1 r2 : RVal) (B1 B2 b : Nat) (h1 : IsCan V r1 0 B1) (h2 : IsCan V r2 0 B2) (hA : Arr V b 55 [.bool r1.s, .slice r1.a r1.k r1.c, .slice r1.b r1.j r1.d, .bool r2.s, .slice r2.a r2.k r2.c, .slice r2.b r2.j r2.d])
    (bl bh bi : Nat) (hl : Arr V bl 3 [.int .i64 1, .int .i64 0]) (hh : Arr V bh 3 [.int .i64 2, .int .i64 3]) (hi : Arr V bi 3 [.int .i64 0, .int .i64 0]) :
    Calls Tryz.prog 25 #[.slice (some ⟨b, 0, none⟩) 2 2, .slice (some ⟨bl, 0, none⟩) 2 2, .slice (some ⟨bh, 0, none⟩) 2 2, .slice (some ⟨bi, 0, none⟩) 2 2] V (ExNo V) := by
  exact sc_extreme_bad V (some ⟨b, 0, none⟩) (some ⟨bl, 0, none⟩) (some ⟨bh, 0, none⟩) (some ⟨bi, 0, none⟩) 2 2 2 2 2 2 [r1, r2] [0, 0] [1, 0] [2, 3] [0, 0] (two_rats V r1 r2 _ _ B1 B2 b _ h1 h2 (by decide +kernel) (by decide +kernel) hA) (two_ints V bl 1 0 (by omega) (by omega) hl) (two_ints V bh 2 3 (by omega) (by omega) hh) (two_ints V bi 0 0 (by omega) (by omega) hi) rfl rfl rfl rfl (by omega) (by omega) (by
      intro i hi
      rcases (show i = 0 ∨ i = 1 by omega) with rfl | rfl <;> decide) ⟨0, ⟨0, by omega, rfl⟩, by decide⟩

/-- A call that gives two numbers, and their boxes. -/
theorem four_boxes (w : World) (T0 T1 T2 T3 : TypeId) (l0 l1 l2 l3 : List Value) : ∃ V : World, V = (((w.alloc (.cells l0.toArray T0)).alloc (.cells l1.toArray T1)).alloc (.cells l2.toArray T2)).alloc (.cells l3.toArray T3) ∧ Ext w V ∧ Arr V w.heap.size T0 l0 ∧ Arr V (w.heap.size + 1) T1 l1 ∧ Arr V (w.heap.size + 1 + 1) T2 l2 ∧ Arr V (w.heap.size + 1 + 1 + 1) T3 l3 := by
  obtain ⟨V, hV, x0, z0, a0, a1, a2⟩ := boxes3 w T0 l0 T1 l1 T2 l2
  refine ⟨_, rfl, ?_⟩
  rw [← hV]
  have x1 : Ext V (V.alloc (.cells l3.toArray T3)) := (Ext.refl _).alloc _
  have a3 := Arr.alloc V T3 l3
  rw [z0.out] at a3
  exact ⟨x0.trans x1, a0.ext x1, a1.ext x1, a2.ext x1, a3⟩

set_option maxHeartbeats 4000000 in
set_option maxRecDepth 100000 in
theorem law30_awake (w : World) : Calls Tryz.prog 27 #[] w fun e w' => e = .returned (.bool true) ∧ Ext w w' := by
  go_enter Tryz.func27, Tryz.ntmps27
  go_wp2_with fail
  refine (r3_Of w 1 2 (by omega) (by omega) (by omega)).mono ?_
  intro e w1 hN
  obtain ⟨r1, rfl, hr1, x1⟩ := hN.isCan
  clear hN
  go_wp2_with fail
  refine (r3_Of w1 (-1) 4 (by omega) (by omega) (by omega)).mono ?_
  intro e w2 hN
  obtain ⟨r2, rfl, hr2, x2⟩ := hN.isCan
  clear hN
  go_wp2_with fail
  obtain ⟨V3, hV3, x3, a0, a1, a2, a3⟩ := four_boxes w2 55 3 3 3 [.bool r1.s, .slice r1.a r1.k r1.c, .slice r1.b r1.j r1.d, .bool r2.s, .slice r2.a r2.k r2.c, .slice r2.b r2.j r2.d] [.int .i64 0, .int .i64 (-6)] [.int .i64 10, .int .i64 4] [.int .i64 0, .int .i64 0]
  rw [show ((((w2.alloc (Obj.cells #[.bool r1.s, .slice r1.a r1.k r1.c, .slice r1.b r1.j r1.d, .bool r2.s, .slice r2.a r2.k r2.c, .slice r2.b r2.j r2.d] 55)).alloc (Obj.cells #[.int .i64 0, .int .i64 (-6)] 3)).alloc (Obj.cells #[.int .i64 10, .int .i64 4] 3)).alloc (Obj.cells #[.int .i64 0, .int .i64 0] 3)) = V3 from hV3.symm]
  clear hV3
  refine (ex_first V3 r1 r2 _ _ _ ((hr1.ext x2).ext x3) (hr2.ext x3) a0 _ _ _ a1 a2 a3).mono ?_
  rintro e w4 ⟨p, q, rfl, hp, hq, x4⟩
  have X4 : Ext w w4 := ((x1.trans x2).trans x3).trans x4
  clear hr1 hr2 a0 a1 a2 a3 x1 x2 x3 x4
  go_upto_region 2 with fail
  obtain ⟨V5, hV5, x5, Z5, A5, B5⟩ := boxes2 w4 55 [.bool p.s, .slice p.a p.k p.c, .slice p.b p.j p.d] 55 [.bool q.s, .slice q.a q.k q.c, .slice q.b q.j q.d]
  rw [show (w4.alloc (Obj.cells #[.bool p.s, .slice p.a p.k p.c, .slice p.b p.j p.d] 55)).alloc (Obj.cells #[.bool q.s, .slice q.a q.k q.c, .slice q.b q.j q.d] 55) = V5 from hV5.symm]
  clear hV5
  have hp5 := hp.ext x5
  have hq5 := hq.ext x5
  have X5 : Ext w V5 := X4.trans x5
  clear hp hq X4 x5 Z5
  go_wp2_with fail
  refine (r3_Zero _).mono ?_
  intro e w6 hN
  obtain ⟨r3, rfl, hr3, x6⟩ := hN.isCan
  clear hN
  go_wp2_with fail
  refine (r3_Zero _).mono ?_
  intro e w7 hN
  obtain ⟨r4, rfl, hr4, x7⟩ := hN.isCan
  clear hN
  go_wp2_with fail
  obtain ⟨V8, hV8, x8, a0, a1, a2, a3⟩ := four_boxes w7 55 3 3 3 [.bool r3.s, .slice r3.a r3.k r3.c, .slice r3.b r3.j r3.d, .bool r4.s, .slice r4.a r4.k r4.c, .slice r4.b r4.j r4.d] [.int .i64 1, .int .i64 0] [.int .i64 2, .int .i64 3] [.int .i64 0, .int .i64 0]
  rw [show ((((w7.alloc (Obj.cells #[.bool r3.s, .slice r3.a r3.k r3.c, .slice r3.b r3.j r3.d, .bool r4.s, .slice r4.a r4.k r4.c, .slice r4.b r4.j r4.d] 55)).alloc (Obj.cells #[.int .i64 1, .int .i64 0] 3)).alloc (Obj.cells #[.int .i64 2, .int .i64 3] 3)).alloc (Obj.cells #[.int .i64 0, .int .i64 0] 3)) = V8 from hV8.symm]
  clear hV8
  refine (ex_second V8 r3 r4 _ _ _ ((hr3.ext x7).ext x8) (hr4.ext x8) a0 _ _ _ a1 a2 a3).mono ?_
  rintro e w9 ⟨rfl, x9⟩
  have y9 : Ext V5 w9 := ((x6.trans x7).trans x8).trans x9
  clear hr3 hr4 a0 a1 a2 a3 x6 x7 x8 x9
  go_upto_region 3 with fail
  obtain ⟨V, hV, xV, ZV, A9, B9⟩ := boxes2 w9 55 [.bool false, .slice none 0 0, .slice none 0 0] 55 [.bool false, .slice none 0 0, .slice none 0 0]
  rw [show (w9.alloc (Obj.cells #[.bool false, .slice none 0 0, .slice none 0 0] 55)).alloc (Obj.cells #[.bool false, .slice none 0 0, .slice none 0 0] 55) = V from hV.symm]
  clear hV A9 B9 ZV
  have y := y9.trans xV
  have hp9 := hp5.ext y
  have hq9 := hq5.ext y
  have XV : Ext w V := X5.trans y
  have AV := A5.ext y
  have BV := B5.ext y
  have hpz : rsz 0 ≤ 2 := by decide +kernel
  have hqz : rsz (mkRat 9 2) ≤ 2 := by decide +kernel
  have hSg : ∀ U, Ext V U → Calls Tryz.prog 43 #[.agg #[.bool p.s, .slice p.a p.k p.c, .slice p.b p.j p.d]] U fun e w' => e = .returned (.int .i64 0) ∧ Ext U w' := by
    intro U hU
    have hr := hp9.ext hU
    have hs := hr.short hpz
    have h5 := r3_Sign U p.s _ _ _ _ _ _ _ _ hr.num hr.den (by omega) (by omega)
    rw [hr.s, sgn_num, Rat.mkRat_self] at h5
    rw [hr.s]
    exact h5
  have hCm : ∀ U, Ext V U → ∀ (r : RVal) (B : Nat), IsCan U r (mkRat 9 2) B → Calls Tryz.prog 28 #[.agg #[.bool q.s, .slice q.a q.k q.c, .slice q.b q.j q.d], .agg #[.bool r.s, .slice r.a r.k r.c, .slice r.b r.j r.d]] U fun e w' => e = .returned (.int .i64 0) ∧ Ext U w' := by
    intro U hU r B hr
    have hqq := hq9.ext hU
    have s1 := hqq.short hqz
    have s2 := hr.short hqz
    have h5 := r3_Compare U q.s _ _ _ _ _ _ _ _ hqq.num hqq.den r.s _ _ _ _ _ _ _ _ hr.num hr.den (by omega) (by omega) (by omega) (by omega)
    rw [hqq.s, sgn_num, Rat.mkRat_self, hr.s, sgn_num, Rat.mkRat_self, cmpQ_eq.2 rfl] at h5
    rw [hqq.s, hr.s]
    exact h5
  have hKK : ∀ U, Ext V U → U.cell? ⟨w4.heap.size, 0, none⟩ = some (.bool p.s) ∧ U.cell? ⟨w4.heap.size, 1, none⟩ = some (.slice p.a p.k p.c) ∧ U.cell? ⟨w4.heap.size, 2, none⟩ = some (.slice p.b p.j p.d) ∧ U.cell? ⟨w4.heap.size + 1, 0, none⟩ = some (.bool q.s) ∧ U.cell? ⟨w4.heap.size + 1, 1, none⟩ = some (.slice q.a q.k q.c) ∧ U.cell? ⟨w4.heap.size + 1, 2, none⟩ = some (.slice q.b q.j q.d) := fun U hU => by
    obtain ⟨k0, k1, k2, -, -, -⟩ := box3 AV hU
    obtain ⟨m0, m1, m2, -, -, -⟩ := box3 BV hU
    exact ⟨k0, k1, k2, m0, m1, m2⟩
  have HSg := Lib.hid hSg; have HCm := Lib.hid hCm; have HKK := Lib.hid hKK
  have v0 : Ext V V.drew := (Ext.refl _).drew
  clear hSg hCm hKK hp9 hq9 AV BV hp5 hq5 A5 B5
  refine wp_region_Z (S := fun w' => w'.cell? ⟨w4.heap.size, 0, none⟩ = some (.bool p.s) ∧ w'.cell? ⟨w4.heap.size, 1, none⟩ = some (.slice p.a p.k p.c) ∧ w'.cell? ⟨w4.heap.size, 2, none⟩ = some (.slice p.b p.j p.d) ∧ w'.cell? ⟨w4.heap.size + 1, 0, none⟩ = some (.bool q.s) ∧ w'.cell? ⟨w4.heap.size + 1, 1, none⟩ = some (.slice q.a q.k q.c) ∧ w'.cell? ⟨w4.heap.size + 1, 2, none⟩ = some (.slice q.b q.j q.d)) (fun i => false) (by kernel_rfl) (HKK.out _ v0) (fun hHeld => ?_)
  refine wpAnyZ_take (i := 0) (v := .bool true) rfl (by kernel_rfl) (by kernel_rfl) (by kernel_rfl) (by kernel_rfl) (fun _ _ _ h => h) (Or.inl ⟨by rfl, fun w hSw => by (obtain ⟨e0, e1, e2, e3, e4, e5⟩ := hSw; go_simp)⟩) hHeld ?_
  try simp only [List.getElem_toArray, List.getElem_cons_zero, Act.put, List.setIfInBounds_toArray, List.set_cons_zero, List.set_cons_succ]
  refine wpAnyZ_take (i := 1) (v := .bool true) rfl (by kernel_rfl) (by kernel_rfl) (by kernel_rfl) (by kernel_rfl) (fun _ _ _ h => h) (Or.inl ⟨by rfl, fun w hSw => by (obtain ⟨e0, e1, e2, e3, e4, e5⟩ := hSw; go_simp)⟩) hHeld ?_
  try simp only [List.getElem_toArray, List.getElem_cons_succ, List.getElem_cons_zero, Act.put, List.setIfInBounds_toArray, List.set_cons_zero, List.set_cons_succ]
  refine wpAnyZ_take (i := 2) (v := .bool false) rfl (by kernel_rfl) (by kernel_rfl) (by kernel_rfl) (by kernel_rfl) (fun _ _ _ h => h) (Or.inl ⟨by rfl, fun w hSw => by (obtain ⟨e0, e1, e2, e3, e4, e5⟩ := hSw; go_simp)⟩) hHeld ?_
  try simp only [List.getElem_toArray, List.getElem_cons_succ, List.getElem_cons_zero, Act.put, List.setIfInBounds_toArray, List.set_cons_zero, List.set_cons_succ]
  refine wpAnyZ_take (i := 3) (v := .bool true) rfl (by kernel_rfl) (by kernel_rfl) (by kernel_rfl) (by kernel_rfl) (fun _ _ _ h => h) (Or.inl ⟨by rfl, fun w hSw => by (obtain ⟨e0, e1, e2, e3, e4, e5⟩ := hSw; go_simp)⟩) hHeld ?_
  try simp only [List.getElem_toArray, List.getElem_cons_succ, List.getElem_cons_zero, Act.put, List.setIfInBounds_toArray, List.set_cons_zero, List.set_cons_succ]
  refine wpAnyZ_take (i := 4) (v := .bool true) rfl (by kernel_rfl) (by kernel_rfl) (by kernel_rfl) (by kernel_rfl) (fun _ _ _ h => h) (Or.inl ⟨by rfl, fun w hSw => by (obtain ⟨e0, e1, e2, e3, e4, e5⟩ := hSw; go_simp)⟩) hHeld ?_
  try simp only [List.getElem_toArray, List.getElem_cons_succ, List.getElem_cons_zero, Act.put, List.setIfInBounds_toArray, List.set_cons_zero, List.set_cons_succ]
  refine wpAnyZ_take (i := 5) (v := .bool true) rfl (by kernel_rfl) (by kernel_rfl) (by kernel_rfl) (by kernel_rfl) (fun _ _ _ h => h) (Or.inl ⟨by rfl, fun w hSw => by (obtain ⟨e0, e1, e2, e3, e4, e5⟩ := hSw; go_simp)⟩) hHeld ?_
  try simp only [List.getElem_toArray, List.getElem_cons_succ, List.getElem_cons_zero, Act.put, List.setIfInBounds_toArray, List.set_cons_zero, List.set_cons_succ]
  refine wpAnyZ_take (i := 6) (v := .agg #[.bool p.s, .slice p.a p.k p.c, .slice p.b p.j p.d]) rfl (by kernel_rfl) (by kernel_rfl) (by kernel_rfl) (by kernel_rfl) (fun _ _ _ h => h) (Or.inl ⟨by rfl, fun w hSw => by (obtain ⟨e0, e1, e2, e3, e4, e5⟩ := hSw; go_simp)⟩) hHeld ?_
  try simp only [List.getElem_toArray, List.getElem_cons_succ, List.getElem_cons_zero, Act.put, List.setIfInBounds_toArray, List.set_cons_zero, List.set_cons_succ]
  refine wpAnyZ_ready (rs := [7]) (by kernel_rfl) (by simp) ?_
  refine AllReadyZ.cons rfl (fun Kc hK => ?_) AllReadyZ.nil
  go_simp
  refine (HSg.out _ v0).mono ?_
  rintro e z1 ⟨rfl, y1⟩
  have v1 := v0.trans y1
  refine hK.out _ _ (HKK.out _ v1) (fun hHeld => ?_)
  clear hK Kc
  try simp only [List.getElem_toArray, List.getElem_cons_succ, List.getElem_cons_zero, Act.put, List.setIfInBounds_toArray, List.set_cons_zero, List.set_cons_succ]
  refine wpAnyZ_take (i := 8) (v := .bool true) rfl (by kernel_rfl) (by kernel_rfl) (by kernel_rfl) (by kernel_rfl) (fun _ _ _ h => h) (Or.inl ⟨by rfl, fun w hSw => by (obtain ⟨e0, e1, e2, e3, e4, e5⟩ := hSw; go_simp)⟩) hHeld ?_
  try simp only [List.getElem_toArray, List.getElem_cons_succ, List.getElem_cons_zero, Act.put, List.setIfInBounds_toArray, List.set_cons_zero, List.set_cons_succ]
  refine wpAnyZ_take (i := 9) (v := .bool true) rfl (by kernel_rfl) (by kernel_rfl) (by kernel_rfl) (by kernel_rfl) (fun _ _ _ h => h) (Or.inl ⟨by rfl, fun w hSw => by (obtain ⟨e0, e1, e2, e3, e4, e5⟩ := hSw; go_simp)⟩) hHeld ?_
  try simp only [List.getElem_toArray, List.getElem_cons_succ, List.getElem_cons_zero, Act.put, List.setIfInBounds_toArray, List.set_cons_zero, List.set_cons_succ]
  refine wpAnyZ_take (i := 10) (v := .bool true) rfl (by kernel_rfl) (by kernel_rfl) (by kernel_rfl) (by kernel_rfl) (fun _ _ _ h => h) (Or.inl ⟨by rfl, fun w hSw => by (obtain ⟨e0, e1, e2, e3, e4, e5⟩ := hSw; go_simp)⟩) hHeld ?_
  try simp only [List.getElem_toArray, List.getElem_cons_succ, List.getElem_cons_zero, Act.put, List.setIfInBounds_toArray, List.set_cons_zero, List.set_cons_succ]
  refine wpAnyZ_take (i := 11) (v := .agg #[.bool q.s, .slice q.a q.k q.c, .slice q.b q.j q.d]) rfl (by kernel_rfl) (by kernel_rfl) (by kernel_rfl) (by kernel_rfl) (fun _ _ _ h => h) (Or.inl ⟨by rfl, fun w hSw => by (obtain ⟨e0, e1, e2, e3, e4, e5⟩ := hSw; go_simp)⟩) hHeld ?_
  try simp only [List.getElem_toArray, List.getElem_cons_succ, List.getElem_cons_zero, Act.put, List.setIfInBounds_toArray, List.set_cons_zero, List.set_cons_succ]
  refine wpAnyZ_ready (rs := [12]) (by kernel_rfl) (by simp) ?_
  refine AllReadyZ.cons rfl (fun Kc hK => ?_) AllReadyZ.nil
  go_simp
  refine (r3_Of z1 9 2 (by omega) (by omega) (by omega)).mono ?_
  intro e z2 hN
  obtain ⟨r5, rfl, hr5, y2⟩ := hN.isCan
  clear hN
  have v2 := v1.trans y2
  refine hK.out _ _ (HKK.out _ v2) (fun hHeld => ?_)
  clear hK Kc
  try simp only [List.getElem_toArray, List.getElem_cons_succ, List.getElem_cons_zero, Act.put, List.setIfInBounds_toArray, List.set_cons_zero, List.set_cons_succ]
  refine wpAnyZ_ready (rs := [13]) (by kernel_rfl) (by simp) ?_
  refine AllReadyZ.cons rfl (fun Kc hK => ?_) AllReadyZ.nil
  go_simp
  refine (HCm.out _ v2 _ _ hr5).mono ?_
  rintro e z3 ⟨rfl, y3⟩
  have v3 := v2.trans y3
  refine hK.out _ _ (HKK.out _ v3) (fun hHeld => ?_)
  clear hK Kc
  try simp only [List.getElem_toArray, List.getElem_cons_succ, List.getElem_cons_zero, Act.put, List.setIfInBounds_toArray, List.set_cons_zero, List.set_cons_succ]
  refine wpAnyZ_take (i := 14) (v := .bool true) rfl (by kernel_rfl) (by kernel_rfl) (by kernel_rfl) (by kernel_rfl) (fun _ _ _ h => h) (Or.inl ⟨by rfl, fun w hSw => by (obtain ⟨e0, e1, e2, e3, e4, e5⟩ := hSw; go_simp)⟩) hHeld ?_
  try simp only [List.getElem_toArray, List.getElem_cons_succ, List.getElem_cons_zero, Act.put, List.setIfInBounds_toArray, List.set_cons_zero, List.set_cons_succ]
  refine wpAnyZ_take (i := 15) (v := .bool true) rfl (by kernel_rfl) (by kernel_rfl) (by kernel_rfl) (by kernel_rfl) (fun _ _ _ h => h) (Or.inl ⟨by rfl, fun w hSw => by (obtain ⟨e0, e1, e2, e3, e4, e5⟩ := hSw; go_simp)⟩) hHeld ?_
  try simp only [List.getElem_toArray, List.getElem_cons_succ, List.getElem_cons_zero, Act.put, List.setIfInBounds_toArray, List.set_cons_zero, List.set_cons_succ]
  refine wpAnyZ_take (i := 16) (v := .bool true) rfl (by kernel_rfl) (by kernel_rfl) (by kernel_rfl) (by kernel_rfl) (fun _ _ _ h => h) (Or.inl ⟨by rfl, fun w hSw => by (obtain ⟨e0, e1, e2, e3, e4, e5⟩ := hSw; go_simp)⟩) hHeld ?_
  try simp only [List.getElem_toArray, List.getElem_cons_succ, List.getElem_cons_zero, Act.put, List.setIfInBounds_toArray, List.set_cons_zero]
  refine wpAnyZ_done (by kernel_rfl) ?_ _
  go_wp2_with fail
  go_ret
  exact ⟨rfl, XV.trans v3⟩

end Go.Proofs.YtgihpfkjpfanmaaGreat


namespace Go.Proofs.YtgihpfkjpfanmaaGreat
open Go.RowKit

theorem ksum_sub (isl f g : Nat → Int) (k : Int) (l : List Nat) : ksum isl (fun i => f i - g i) k l = ksum isl f k l - ksum isl g k l := by
  induction l with
  | nil => simp [ksum]
  | cons i l ih => unfold ksum; rw [ih]; split <;> omega
theorem ksum_congr (isl f isl' g : Nat → Int) (k : Int) (l : List Nat) (h : ∀ i ∈ l, f i = g i) (h' : ∀ i ∈ l, isl i = isl' i) : ksum isl f k l = ksum isl' g k l := by
  induction l with
  | nil => rfl
  | cons i l ih =>
    unfold ksum
    rw [h i List.mem_cons_self, h' i List.mem_cons_self, ih (fun j hj => h j (List.mem_cons_of_mem _ hj)) (fun j hj => h' j (List.mem_cons_of_mem _ hj))]
theorem ksum_mono (isl f g : Nat → Int) (k : Int) (l : List Nat) (h : ∀ i ∈ l, f i ≤ g i) : ksum isl f k l ≤ ksum isl g k l := by
  have h1 := ksum_nonneg isl (fun i => g i - f i) k l (fun i hi => by have := h i hi; omega)
  rw [ksum_sub] at h1
  omega

theorem map_range_set (n i : Nat) (f g : Nat → Int) (x : Int) (_hi : i < n) (hx : g i = x) (h : ∀ j, j < n → j ≠ i → g j = f j) : ((List.range n).map f).set i x = (List.range n).map g := by
  apply List.ext_getElem
  · simp
  · intro j h1 h2
    have hj : j < n := by simpa using h2
    by_cases hij : i = j
    · subst hij; simp [hx]
    · rw [List.getElem_set_ne hij]; simp [h j hj (fun e => hij e.symm)]
theorem at0_map (n i : Nat) (f : Nat → Int) (h : i < n) : at0 ((List.range n).map f) i = f i := by
  unfold at0; simp [h]

/-- The list v lies in the box, and its sum is 0 in each island. -/
structure Inside (n : Nat) (at' v lo hi : Nat → Int) : Prop where
  box : ∀ i, i < n → lo i ≤ v i ∧ v i ≤ hi i
  zero : ∀ k, ksum at' v k (List.range n) = 0
theorem Inside.miss {n : Nat} {at' v lo hi : Nat → Int} (h : Inside n at' v lo hi) (k : Int) : missF lo at' n k = ksum at' (fun i => v i - lo i) k (List.range n) := by
  rw [ksum_sub, h.zero]; unfold missF; omega
theorem Inside.good {n : Nat} {at' v lo hi : Nat → Int} (h : Inside n at' v lo hi) : ∀ k, keyP at' n k → 0 ≤ missF lo at' n k ∧ missF lo at' n k ≤ roomF lo hi at' n k := by
  intro k _
  rw [h.miss]
  refine ⟨ksum_nonneg _ _ _ _ (fun i hi => by have := h.box i (List.mem_range.1 hi); omega), ksum_mono _ _ _ _ _ (fun i hi => by have := h.box i (List.mem_range.1 hi); omega)⟩
theorem Inside.least {n : Nat} {at' v lo hi : Nat → Int} (h : Inside n at' v lo hi) (h3 : ∀ i, i < n → 0 ≤ at' i ∧ at' i < 3) (ts : List Rat) : fillSum (atQ ts) lo hi at' (scOrder ts n) (missF lo at' n) ≤ vsum (atQ ts) v (List.range n) := by
  have h1 := fill_least (atQ ts) lo hi at' v [0, 1, 2] (by decide) (scOrder ts n) (missF lo at' n) (fun i hi => by have := h3 i ((scOrder_mem _ _ _).1 hi); simp; omega) (scOrder_sorted ts n) (fun i hi => h.box i ((scOrder_mem _ _ _).1 hi)) (fun k => by rw [h.miss, ksum_perm _ _ _ (scOrder_perm ts n)])
  rw [vsum_perm _ _ (scOrder_perm ts n)] at h1
  exact h1
theorem Inside.greatest {n : Nat} {at' v lo hi : Nat → Int} (h : Inside n at' v lo hi) (h3 : ∀ i, i < n → 0 ≤ at' i ∧ at' i < 3) (ts : List Rat) : vsum (atQ ts) v (List.range n) ≤ fillSum (atQ ts) lo hi at' (scOrder ts n).reverse (missF lo at' n) := by
  have hp : (scOrder ts n).reverse.Perm (List.range n) := (List.reverse_perm _).trans (scOrder_perm ts n)
  have h1 := fill_greatest (atQ ts) lo hi at' v [0, 1, 2] (by decide) (scOrder ts n).reverse (missF lo at' n) (fun i hi => by have := h3 i ((scOrder_mem _ _ _).1 (List.mem_reverse.1 hi)); simp; omega) (List.pairwise_reverse.2 (scOrder_sorted ts n)) (fun i hi => h.box i ((scOrder_mem _ _ _).1 (List.mem_reverse.1 hi))) (fun k => by rw [h.miss, ksum_perm _ _ _ hp])
  rw [vsum_perm _ _ hp] at h1
  exact h1
theorem vsum_range_succ (t : Nat → Rat) (v : Nat → Int) (i : Nat) : vsum t v (List.range (i + 1)) = vsum t v (List.range i) + t i * ((v i : Int) : Rat) := by
  have key : ∀ l l' : List Nat, vsum t v (l ++ l') = vsum t v l + vsum t v l' := by
    intro l l'
    induction l with
    | nil => simp [vsum]; grind
    | cons a l ih => simp only [List.cons_append, vsum]; rw [ih]; grind
  rw [List.range_succ, key]; simp [vsum]; grind

/-- The three sums in their block. -/
def three (σ : Int → Int) : List Value := [.int .i64 (σ 0), .int .i64 (σ 1), .int .i64 (σ 2)]
theorem three_set (σ : Int → Int) (k : Nat) (hk : k < 3) (x : Int) : (three σ).set k (.int .i64 x) = three (upd σ (k : Int) x) := by
  rcases (show k = 0 ∨ k = 1 ∨ k = 2 by omega) with rfl | rfl | rfl <;> simp [three, upd]
theorem three_get (σ : Int → Int) (k : Nat) (hk : k < 3) : (three σ)[k]? = some (.int .i64 (σ (k : Int))) := by
  rcases (show k = 0 ∨ k = 1 ∨ k = 2 by omega) with rfl | rfl | rfl <;> rfl

/-- The sum over an island, one number changed. -/
theorem ksum_change (isl f g : Nat → Int) (k : Int) (n i : Nat) (hi : i < n) (h : ∀ j, j < n → j ≠ i → g j = f j) : ksum isl g k (List.range n) = ksum isl f k (List.range n) + (if isl i = k then g i - f i else 0) := by
  induction n with
  | zero => omega
  | succ n ih =>
    rw [ksum_range_succ, ksum_range_succ]
    by_cases hn : i = n
    · subst hn
      rw [ksum_congr isl g isl f k (List.range i) (fun j hj => h j (by have := List.mem_range.1 hj; omega) (by have := List.mem_range.1 hj; omega)) (fun _ _ => rfl)]
      split <;> omega
    · rw [ih (by omega) (fun j hj hne => h j (by omega) hne), h n (by omega) (fun e => hn e.symm)]
      omega

end Go.Proofs.YtgihpfkjpfanmaaGreat
