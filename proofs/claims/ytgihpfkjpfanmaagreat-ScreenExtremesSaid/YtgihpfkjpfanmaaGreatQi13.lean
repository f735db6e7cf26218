/- Texts of the proof: Rb1, Rb2, Rb3, Rb4, Sb7, Hz, Sb10, Sb11, Sc1, Sc2. -/
import Derived.Deep.Slices
import Derived.Test.YtgihpfkjpfanmaaGreatProg
import Derived.Shelf.SlSortCmp.NoneTotal
import Derived.Deep.DeepCutAuto
import Derived.Deep.CutBlock
import Derived.IntWalk
import Derived.Test.YtgihpfkjpfanmaaGreatRows
import Derived.Test.YtgihpfkjpfanmaaGreatChecked
import Derived.Lib.Strings
import Derived.Lib.Slices
import Derived.Lib.Small
import Derived.Lib.Walk
import Derived.Lib.BitFns
import Derived.Laws.AppendOwnNone
import Derived.Deep.LoopGhost
import Derived.WalkKit
import Derived.ProofKit
import Derived.OpenShut
import Derived.ShutString
import Derived.ChangeOld
import Derived.Below
import Derived.KernelRfl
import Derived.WalkSpells
import Derived.Sort.Grow
import Derived.Lib.Hide
import Derived.Laws.CopyOwn
import Derived.Laws.BitsAllLaws
import Derived.Deep.QuietTactic
import Derived.BigQuiet
import Derived.WalkLawsBesides
import Derived.Deep.RegionWith
import Derived.Deep.RegionHeld3
import Derived.Deep.RegionHeld
import Derived.Maps.RangeWalk
import Derived.Maps.OwnSet
import Derived.Maps.OwnOps
import Derived.Maps.Views
import Derived.Test.YtgihpfkjpfanmaaGreatQi1
import Derived.Test.YtgihpfkjpfanmaaGreatQi2
import Derived.Test.YtgihpfkjpfanmaaGreatQi3
import Derived.Test.YtgihpfkjpfanmaaGreatQi4
import Derived.Test.YtgihpfkjpfanmaaGreatQi5
import Derived.Test.YtgihpfkjpfanmaaGreatQi6
import Derived.Test.YtgihpfkjpfanmaaGreatQi7
import Derived.Test.YtgihpfkjpfanmaaGreatQi8
import Derived.Test.YtgihpfkjpfanmaaGreatQi9
import Derived.Test.YtgihpfkjpfanmaaGreatQi10
import Derived.Test.YtgihpfkjpfanmaaGreatQi11
import Derived.Test.YtgihpfkjpfanmaaGreatQi12
namespace Go.Proofs.YtgihpfkjpfanmaaGreat
open Go.ChangeShapes Go.WideShapes Go.ChangeAt Go.RowKit Go.Deep

/-- The limbs of a number that came in: as Limbs, of any length. -/
def RawIn (w : World) (a : Option Addr) (k c : Nat) : Prop := k ≤ c ∧ c ≤ 9223372036854775807 ∧ (k ≤ 1000 → ∃ n, Raw w a k c n)

/-- A slice of rational numbers that came in. -/
structure RatsIn (w : World) (a : Option Addr) (c : Nat) (rs : List RVal) : Prop where
  le : rs.length ≤ c
  cap : c ≤ 9223372036854775807
  nul : a = none → c = 0
  cell : ∀ i (h : i < rs.length), ∃ b o, a = some ⟨b, o, none⟩ ∧ w.cell? ⟨b, o + i * 3, none⟩ = some (.bool rs[i].s) ∧ w.cell? ⟨b, o + i * 3 + 1, none⟩ = some (.slice rs[i].a rs[i].k rs[i].c) ∧ w.cell? ⟨b, o + i * 3 + 2, none⟩ = some (.slice rs[i].b rs[i].j rs[i].d)
  num : ∀ i (h : i < rs.length), RawIn w rs[i].a rs[i].k rs[i].c ∧ RawIn w rs[i].b rs[i].j rs[i].d

theorem three_of {l : List Value} (h : l.length = 3) : ∃ a b c, l = [a, b, c] := by
  match l, h with
  | [a, b, c], _ => exact ⟨a, b, c, rfl⟩

section
variable {H : Type} {enc : TypeId × Value → H} {w : World} {base : Nat} {spare : Nat → Bool} {held : Bool}

theorem wf_u32 {n : Int} (h : (Lit.int .u32 n).wf = true) : 0 ≤ n ∧ n < 4294967296 := by
  simp [Lit.wf, IntKind.min, IntKind.max, IntKind.signed, IntKind.bits] at h
  omega

theorem open_raw {fuel : Nat} {v : Value} {x : DataW H × List MemPlace} (h : DataW.trod enc Tryz.prog w base spare held fuel 51 [v] = some x) : ∃ a k c, v = .slice a k c ∧ RawIn w a k c := by
  rcases open_ints Tryz.underlying51 Tryz.underlying122 (by kernel_rfl) h with ⟨hcs, _⟩ | ⟨a, len, cap, zs, hcs, _, hl, hm, hz, _, hcell, hwf⟩
  · simp only [List.cons.injEq, and_true] at hcs
    exact ⟨none, 0, 0, hcs, Nat.le_refl _, by omega, fun _ => ⟨0, Raw.nil w⟩⟩
  · simp only [List.cons.injEq, and_true] at hcs
    refine ⟨some a, len, cap, hcs, hl, by unfold maxLen at hm; omega, fun hk => ?_⟩
    have hlz : len ≤ zs.length := by rw [hz]; split <;> omega
    refine ⟨val ((zs.take len).map Int.toNat), (zs.take len).map Int.toNat, by simp; omega, rfl, by simp; omega, by unfold maxLen at hm; omega, by simp; omega, (fun e => by cases e), ?_, ?_⟩
    · intro n hn
      obtain ⟨z, hz', rfl⟩ := List.mem_map.1 hn
      have := wf_u32 (hwf z (List.mem_of_mem_take hz'))
      omega
    · intro i hi
      have hi' : i < len := by simp at hi; omega
      have hc := hcell i (by omega)
      obtain ⟨b, off, spot⟩ := a
      have hspot : spot = none := by simpa [Addr.add] using World.cell?_spot (hcell 0 (by omega))
      subst hspot
      refine ⟨b, off, rfl, ?_⟩
      rw [show (Addr.add ⟨b, off, none⟩ i) = ⟨b, off + i, none⟩ from by unfold Addr.add; split <;> simp_all] at hc
      rw [hc]
      have hiz : i < zs.length := by omega
      have hw := wf_u32 (hwf zs[i] (List.getElem_mem hiz))
      have e1 : zs.getD i 0 = zs[i] := by simp [hiz]
      have e2 : limb ((zs.take len).map Int.toNat) i = zs[i].toNat := by
        unfold limb
        rw [List.getElem?_eq_getElem (by rw [List.length_map, List.length_take]; omega), Option.getD_some, List.getElem_map, List.getElem_take]
      rw [e1, e2, Int.toNat_of_nonneg hw.1]

theorem open_rat {fuel : Nat} {cs : List Value} {x : DataW H × List MemPlace} (h : DataW.trod enc Tryz.prog w base spare held fuel 55 cs = some x) : ∃ r : RVal, cs = r.cells ∧ RawIn w r.a r.k r.c ∧ RawIn w r.b r.j r.d := by
  obtain ⟨xs, n, _, _, hlen, hxl, hf⟩ := DataW.trod_struct Tryz.underlying55 h
  rw [show Tryz.prog.cellsOf 55 = 3 from by kernel_rfl] at hlen
  obtain ⟨c0, c1, c2, rfl⟩ := three_of hlen
  have k53 : Tryz.prog.cellsOf 53 = 2 := by kernel_rfl
  have k51 : Tryz.prog.cellsOf 51 = 1 := by kernel_rfl
  have h0 : DataW.trod enc Tryz.prog w base spare held n 53 (([c0, c1, c2].drop 0).take (Tryz.prog.cellsOf 53)) = xs[0]? := hf 0 _ rfl
  have h1 : DataW.trod enc Tryz.prog w base spare held n 51 (([c0, c1, c2].drop 2).take (Tryz.prog.cellsOf 51)) = xs[1]? := hf 1 _ rfl
  have hx2 : xs.length = 2 := hxl
  rw [k53, List.getElem?_eq_getElem (by omega)] at h0
  rw [k51, List.getElem?_eq_getElem (by omega)] at h1
  obtain ⟨b, j, d, hb, hr⟩ := open_raw (show DataW.trod enc Tryz.prog w base spare held n 51 [c2] = some xs[1] from h1)
  obtain ⟨ys, m, _, _, hlen', hyl, hg⟩ := DataW.trod_struct Tryz.underlying53 (show DataW.trod enc Tryz.prog w base spare held n 53 [c0, c1] = some xs[0] from h0)
  have k4 : Tryz.prog.cellsOf 4 = 1 := by kernel_rfl
  have g0 : DataW.trod enc Tryz.prog w base spare held m 4 (([c0, c1].drop 0).take (Tryz.prog.cellsOf 4)) = ys[0]? := hg 0 _ rfl
  have g1 : DataW.trod enc Tryz.prog w base spare held m 51 (([c0, c1].drop 1).take (Tryz.prog.cellsOf 51)) = ys[1]? := hg 1 _ rfl
  have hy2 : ys.length = 2 := hyl
  rw [k4, List.getElem?_eq_getElem (by omega)] at g0
  rw [k51, List.getElem?_eq_getElem (by omega)] at g1
  obtain ⟨s, hs, _⟩ := DataW.trod_bool Tryz.underlying4 (show DataW.trod enc Tryz.prog w base spare held m 4 [c0] = some ys[0] from g0)
  obtain ⟨a, k, c, ha, hr'⟩ := open_raw (show DataW.trod enc Tryz.prog w base spare held m 51 [c1] = some ys[1] from g1)
  simp only [List.cons.injEq, and_true] at hs
  subst hs ha hb
  exact ⟨⟨s, a, k, c, b, j, d⟩, rfl, hr', hr⟩

theorem open_rats {fuel : Nat} {v : Value} {x : DataW H × List MemPlace} (h : DataW.trod enc Tryz.prog w base spare held fuel 48 [v] = some x) : ∃ a c rs, v = .slice a rs.length c ∧ RatsIn w a c rs := by
  rcases open_slice Tryz.underlying48 h with ⟨hcs, _⟩ | ⟨a, len, cap, m, n, D, Pl, hcs, hb, hl, hm, hmm, hx, hi⟩
  · simp only [List.cons.injEq, and_true] at hcs
    exact ⟨none, 0, [], hcs, Nat.le_refl _, by omega, fun _ => rfl, fun i hi => absurd hi (Nat.not_lt_zero _), fun i hi => absurd hi (Nat.not_lt_zero _)⟩
  · simp only [List.cons.injEq, and_true] at hcs
    have hlm : len ≤ m := by rw [hmm]; split <;> omega
    have hC : Tryz.prog.cellsOf 55 = 3 := by kernel_rfl
    have hex : ∀ i, ∃ r : RVal, i < len → w.cells? base (a.add (i * 3)) 3 = some r.cells ∧ RawIn w r.a r.k r.c ∧ RawIn w r.b r.j r.d := by
      intro i
      by_cases hil : i < len
      · obtain ⟨cs', h1, h2⟩ := hi i (by omega)
        rw [hC] at h1
        obtain ⟨r, rfl, h3, h4⟩ := open_rat h2
        exact ⟨r, fun _ => ⟨h1, h3, h4⟩⟩
      · exact ⟨⟨false, none, 0, 0, none, 0, 0⟩, fun hh => absurd hh hil⟩
    obtain ⟨R, hR⟩ := Classical.axiomOfChoice hex
    refine ⟨some a, cap, (List.range len).map R, by rw [hcs]; simp, by simp; exact hl, by unfold maxLen at hm; omega, (fun e => by cases e), ?_, ?_⟩
    · intro i hi'
      have hil : i < len := by simpa using hi'
      obtain ⟨h1, -, -⟩ := hR i hil
      obtain ⟨_, hcl, hat⟩ := World.cells?_some h1
      obtain ⟨b, off, spot⟩ := a
      have hspot : spot = none := by
        obtain ⟨h0, -, -⟩ := hR 0 (by omega)
        obtain ⟨_, _, hat0⟩ := World.cells?_some h0
        have := hat0 0 (by omega)
        simp [RVal.cells, Addr.add] at this
        exact World.cell?_spot this
      subst hspot
      have hg : (((List.range len).map R)[i]'hi') = R i := by simp
      rw [hg]
      have hadd : ∀ j, Addr.add (Addr.add ⟨b, off, none⟩ (i * 3)) j = ⟨b, off + i * 3 + j, none⟩ := by
        intro j; unfold Addr.add; split <;> split <;> simp_all
      refine ⟨b, off, rfl, ?_, ?_, ?_⟩
      · have := hat 0 (by omega); rw [hadd] at this; simpa [RVal.cells] using this
      · have := hat 1 (by omega); rw [hadd] at this; simpa [RVal.cells] using this
      · have := hat 2 (by omega); rw [hadd] at this; simpa [RVal.cells] using this
    · intro i hi'
      have hil : i < len := by simpa using hi'
      obtain ⟨-, h2, h3⟩ := hR i hil
      have hg : (((List.range len).map R)[i]'hi') = R i := by simp
      rw [hg]
      exact ⟨h2, h3⟩
end

end Go.Proofs.YtgihpfkjpfanmaaGreat


namespace Go.Proofs.YtgihpfkjpfanmaaGreat
open Go.RowKit

theorem RatsIn.at {w : World} {a : Option Addr} {c : Nat} {rs : List RVal} (h : RatsIn w a c rs) (h0 : 0 < rs.length) : ∃ b o, a = some ⟨b, o, none⟩ := by
  obtain ⟨b, o, ha, _⟩ := h.cell 0 h0; exact ⟨b, o, ha⟩

/-- Short numbers. -/
def IsRaw (rs : List RVal) : Prop := rs.length ≤ 30 ∧ ∀ i (hi : i < rs.length), rs[i].k ≤ 4 ∧ rs[i].j ≤ 4

set_option maxRecDepth 100000 in
theorem stage_Raw_yes (w : World) (a : Option Addr) (c : Nat) (rs : List RVal) (h : RatsIn w a c rs) (hr : IsRaw rs) :
    Calls Tryz.prog 23 #[.slice a rs.length c] w fun e w' => e = .returned (.bool true) ∧ w = w' := by
  obtain ⟨h30, hr⟩ := hr
  have HR := Lib.hid hr
  clear hr
  go_enter Tryz.func23, Tryz.ntmps23
  go_wp2_with fail
  go_loop [3] (fun ii => ∃ j : Nat, j ≤ rs.length ∧ ii = .int .i64 j) (fun ii => rs.length - (intOf ii).toNat)
  case atStart => exact ⟨0, Nat.zero_le _, rfl⟩
  case round =>
    obtain ⟨j, hj, rfl⟩ := hrel
    by_cases hlt : j < rs.length
    · obtain ⟨b, o, rfl⟩ := h.at (by omega)
      obtain ⟨b', o', e', c0, c1, c2⟩ := h.cell j hlt
      cases e'
      obtain ⟨r1, r2⟩ := HR.out j hlt
      generalize rs[j] = y at *
      have t1 : decide ((4 : Int) < (y.k : Int)) = false := by simp; omega
      have t2 : decide ((4 : Int) < (y.j : Int)) = false := by simp; omega
      go_wp2_with fail
      go_round
      case rel => exact ⟨j + 1, by omega, by go_num⟩
      case measure => simp [intOf] <;> omega
    · obtain rfl : j = rs.length := by omega
      go_wp2_with fail
      go_ret
      exact ⟨rfl, rfl⟩

set_option maxRecDepth 100000 in
theorem stage_Raw_no (w : World) (a : Option Addr) (c : Nat) (rs : List RVal) (h : RatsIn w a c rs) (hr : ¬ IsRaw rs) :
    Calls Tryz.prog 23 #[.slice a rs.length c] w fun e w' => e = .returned (.bool false) ∧ w = w' := by
  have hle := h.le
  have hcap := h.cap
  by_cases h30 : 30 < rs.length
  · go_enter Tryz.func23, Tryz.ntmps23
    go_wp2_with fail
    go_ret
    exact ⟨rfl, rfl⟩
  · have hb : ∃ i, ∃ hi : i < rs.length, ¬ (rs[i].k ≤ 4 ∧ rs[i].j ≤ 4) := by
      apply Classical.byContradiction
      intro hc
      refine hr ⟨by omega, fun i hi => Classical.byContradiction (fun hh => hc ⟨i, hi, hh⟩)⟩
    obtain ⟨jb, hjb, hbad⟩ := hb
    have HB := Lib.hid hbad
    clear hbad hr
    go_enter Tryz.func23, Tryz.ntmps23
    go_wp2_with fail
    go_loop [3] (fun ii => ∃ j : Nat, j ≤ jb ∧ ii = .int .i64 j) (fun ii => rs.length - (intOf ii).toNat)
    case atStart => exact ⟨0, Nat.zero_le _, rfl⟩
    case round =>
      obtain ⟨j, hj, rfl⟩ := hrel
      have hlt : j < rs.length := by omega
      obtain ⟨b, o, rfl⟩ := h.at (by omega)
      obtain ⟨b', o', e', c0, c1, c2⟩ := h.cell j hlt
      cases e'
      have hz : (j < jb ∧ rs[j].k ≤ 4 ∧ rs[j].j ≤ 4) ∨ 4 < rs[j].k ∨ (rs[j].k ≤ 4 ∧ 4 < rs[j].j) := by
        by_cases e1 : rs[j].k ≤ 4
        · by_cases e2 : rs[j].j ≤ 4
          · refine Or.inl ⟨?_, e1, e2⟩
            rcases Nat.lt_or_ge j jb with h5 | h5
            · exact h5
            · obtain rfl : j = jb := by omega
              exact absurd ⟨e1, e2⟩ HB.out
          · exact Or.inr (Or.inr ⟨e1, by omega⟩)
        · exact Or.inr (Or.inl (by omega))
      clear HB
      generalize rs[j] = y at *
      rcases hz with ⟨hjj, z1, z2⟩ | z1 | ⟨z1, z2⟩
      · have t1 : decide ((4 : Int) < (y.k : Int)) = false := by simp; omega
        have t2 : decide ((4 : Int) < (y.j : Int)) = false := by simp; omega
        go_wp2_with fail
        go_round
        case rel => exact ⟨j + 1, by omega, by go_num⟩
        case measure => simp [intOf] <;> omega
      · have t1 : decide ((4 : Int) < (y.k : Int)) = true := by simp; omega
        go_wp2_with fail
        go_ret
        exact ⟨rfl, rfl⟩
      · have t1 : decide ((4 : Int) < (y.k : Int)) = false := by simp; omega
        have t2 : decide ((4 : Int) < (y.j : Int)) = true := by simp; omega
        go_wp2_with fail
        go_ret
        exact ⟨rfl, rfl⟩

/-- Short numbers that came in are numbers. -/
theorem RatsIn.rats {w : World} {a : Option Addr} {c : Nat} {rs : List RVal} (h : RatsIn w a c rs) (hr : IsRaw rs) : ∃ qs, Rats w a c rs qs 4 ∧ RShort rs 4 := by
  have hex : ∀ i, ∃ q : Rat, ∀ hi : i < rs.length, IsRat w rs[i] q 4 := by
    intro i
    by_cases hi : i < rs.length
    · obtain ⟨h1, h2⟩ := h.num i hi
      obtain ⟨r1, r2⟩ := hr.2 i hi
      obtain ⟨n, hn⟩ := h1.2.2 (by omega)
      obtain ⟨m, hm⟩ := h2.2.2 (by omega)
      have l1 := hn.len_le
      have l2 := hm.len_le
      exact ⟨mkRat (sgn rs[i].s n) m, fun _ => ⟨n, m, hn, hm, rfl, by omega, by omega⟩⟩
    · exact ⟨0, fun hh => absurd hh hi⟩
  obtain ⟨Q, hQ⟩ := Classical.axiomOfChoice hex
  refine ⟨(List.range rs.length).map Q, ⟨by simp, h.le, h.cap, by have := hr.1; omega, h.cell, fun i hi => ?_⟩, hr.2⟩
  have hg : (((List.range rs.length).map Q)[i]'(by simpa using hi)) = Q i := by simp
  rw [hg]
  exact hQ i hi

end Go.Proofs.YtgihpfkjpfanmaaGreat


namespace Go.Proofs.YtgihpfkjpfanmaaGreat
open Go.RowKit

open Classical in
noncomputable def apN (qs : List Rat) : Nat := if apE qs = 0 then (apOut qs).length else 0

/-- What Apportion returns, in one shape. -/
def ApVal (qs : List Rat) (w : World) (e : Ending) (w' : World) : Prop :=
  ∃ pa pc, e = .returned (.tuple #[.slice pa (apN qs) pc, .int .i64 (apE qs)]) ∧ (apN qs = 0 ∨ (apN qs = (apOut qs).length ∧ IntsAt w' pa (apOut qs))) ∧ Ext w w'
theorem ApRes.val {qs : List Rat} {w w' : World} {e : Ending} (h : ApRes qs w e w') : ApVal qs w e w' := by
  rcases h with ⟨h0, b, he, _, hA, hx⟩ | ⟨h0, he, hx⟩
  · have hn : apN qs = (apOut qs).length := by unfold apN; rw [if_pos h0]
    refine ⟨some ⟨b, 0, none⟩, (apOut qs).length, ?_, Or.inr ⟨hn, arr_ints hA⟩, hx⟩
    rw [he, hn, h0]
  · have hn : apN qs = 0 := by unfold apN; rw [if_neg h0]
    refine ⟨none, 0, ?_, Or.inl hn, hx⟩
    rw [he, hn]
theorem ownsRow_base {w : World} {base base' : Nat} {e : TypeId} {s : Nat} {v : Value} {n : Nat} {xs : List Value} (h : w.ownsRow base e s v n xs) (hb : base' ≤ base) : w.ownsRow base' e s v n xs := by
  obtain ⟨h1, h2⟩ := h
  refine ⟨h1, ?_⟩
  rcases h2 with h2 | ⟨g, cap, cur, hv, hb', hg, hr⟩
  · exact .inl h2
  · exact .inr ⟨g, cap, cur, hv, Nat.le_trans hb hb', hg, hr⟩
theorem RatRow.base {w w4 wr : World} {v : Value} {rs : List RVal} {qs : List Rat} {L : Nat} (h : RatRow w4 wr v rs qs L) (hx : Ext w w4) : RatRow w wr v rs qs L :=
  ⟨h.len, ownsRow_base h.own hx.size, h.num, h.off, hx.trans h.ext⟩
theorem RatRow.mono {w wr : World} {v : Value} {rs : List RVal} {qs : List Rat} {L L' : Nat} (h : RatRow w wr v rs qs L) (hl : L ≤ L') : RatRow w wr v rs qs L' :=
  ⟨h.len, h.own, fun k hk => (h.num k hk).mono hl, h.off, h.ext⟩
theorem RShort.mono {rs : List RVal} {L L' : Nat} (h : RShort rs L) (hl : L ≤ L') : RShort rs L' := fun k hk => by have := h k hk; omega

/-- The cells of a slice of numbers, one behind the other. -/
theorem Rats.src {w : World} {a : Option Addr} {c : Nat} {rs : List RVal} {qs : List Rat} {L : Nat} (h : Rats w a c rs qs L) (h0 : 0 < rs.length) : ∃ ad, a = some ad ∧ ∀ j u, (ratCells rs)[j]? = some u → w.cell? (ad.add j) = some u := by
  obtain ⟨b, o, rfl⟩ := h.at h0
  refine ⟨_, rfl, fun j u hu => ?_⟩
  have hj : j < (ratCells rs).length := (List.getElem?_eq_some_iff.1 hu).1
  rw [ratCells_length] at hj
  have hi : j / 3 < rs.length := by omega
  have hk : j % 3 < 3 := by omega
  have hg := ratCells_get rs (j / 3) (j % 3) hi hk
  rw [show j / 3 * 3 + j % 3 = j by omega, hu] at hg
  obtain ⟨b', o', e', c0, c1, c2⟩ := h.cell (j / 3) hi
  cases e'
  rw [show (Addr.add ⟨b, o, none⟩ j) = ⟨b, o + j, none⟩ from by unfold Addr.add; split <;> simp_all]
  rcases (show j % 3 = 0 ∨ j % 3 = 1 ∨ j % 3 = 2 by omega) with e | e | e
  · rw [e] at hg; rw [show o + j = o + j / 3 * 3 by omega, c0]; simpa [RVal.cells] using hg.symm
  · rw [e] at hg; rw [show o + j = o + j / 3 * 3 + 1 by omega, c1]; simpa [RVal.cells] using hg.symm
  · rw [e] at hg; rw [show o + j = o + j / 3 * 3 + 2 by omega, c2]; simpa [RVal.cells] using hg.symm
/-- The numbers copied into a new row. -/
theorem RatRow.copy {w4 w5 : World} {v1 : Value} {a : Option Addr} {c : Nat} {rs : List RVal} {qs : List Rat} {L : Nat} (h : Rats w4 a c rs qs L) (ho : w5.ownsRow w4.heap.size 55 3 v1 rs.length (ratCells rs)) (hX : Ext w4 w5)
    (hv : v1.ownBlock = some w4.heap.size ∨ ∃ g, v1.ownBlock = some g ∧ w4.heap.size + 1 ≤ g) : RatRow w4 w5 v1 rs qs L := by
  refine ⟨h.len, ho, fun k hk => (h.num k hk).ext hX, fun k hk => ?_, hX⟩
  obtain ⟨n, m, g1, g2, _⟩ := h.num k hk
  have key : ∀ {a : Option Addr} {k c n : Nat}, Raw w4 a k c n → 0 < k → ∀ x, a = some x → some x.block ≠ v1.ownBlock := by
    intro a k c n hr h0 x hx e
    have := hr.lt h0 x hx
    rcases hv with hv | ⟨g, hv, hg⟩
    · rw [hv, Option.some.injEq] at e; omega
    · rw [hv, Option.some.injEq] at e; omega
  exact ⟨key g1, key g2⟩

end Go.Proofs.YtgihpfkjpfanmaaGreat


namespace Go.Proofs.YtgihpfkjpfanmaaGreat
open Go.RowKit

/-- The list at the head of the first loop. -/
def SaAt (w : World) (j : Nat) (v : Value) (wr : World) : Prop :=
  (j = 0 ∧ ∃ a c rs qs, v = .slice a rs.length c ∧ Rats wr a c rs qs 4 ∧ RShort rs 4 ∧ rs.length ≤ 30 ∧ (a = none → c = 0) ∧ Ext w wr)
  ∨ (j = 1 ∧ ∃ rs qs, RatRow w wr v rs qs 200 ∧ RShort rs 200 ∧ 0 < rs.length ∧ rs.length ≤ 31)
  ∨ (j = 2 ∧ ∃ n xs, wr.ownsRow w.heap.size 55 3 v n xs ∧ 0 < n ∧ n ≤ 32 ∧ Ext w wr)

theorem SaAt.next {w w4 w8 : World} {j : Nat} {v2 : Value} {rs : List RVal} {qs : List Rat} {L : Nat} {r : RVal} (hj : j < 2) (hx : Ext w w4) (hn : rs.length ≤ 30 + j) (hL : L ≤ 200) (hj0 : j = 0 → L = 4) (hS : RShort rs L) (hq : ∀ k (hk : k < qs.length), rsz qs[k] ≤ max L 1) (hql : qs.length = rs.length)
    (hrow : RatRow w4 w8 v2 (rs ++ [r]) (qs ++ [-(qsum qs)]) (max L (rsz (-(qsum qs))))) (hr : r.k ≤ rsz (-(qsum qs)) ∧ r.j ≤ rsz (-(qsum qs))) : SaAt w (j + 1) v2 w8 := by
  have hb := hrow.base hx
  rcases (show j = 0 ∨ j = 1 by omega) with rfl | rfl
  · refine Or.inr (Or.inl ⟨rfl, rs ++ [r], _, hb.mono ?_, ?_, by simp, by simp; omega⟩)
    · have h5 := rsz_qsum qs (L + 1) (fun k hk => by have := hq k hk; omega) qs.length (Nat.le_refl _)
      rw [List.take_length, hql] at h5
      rw [rsz_neg]
      obtain rfl := hj0 rfl
      have := Nat.mul_le_mul_right (4 + 1 + 1) hn
      omega
    · have h5 := rsz_qsum qs (L + 1) (fun k hk => by have := hq k hk; omega) qs.length (Nat.le_refl _)
      rw [List.take_length, hql] at h5
      rw [rsz_neg] at hr
      obtain rfl := hj0 rfl
      have := Nat.mul_le_mul_right (4 + 1 + 1) hn
      exact (hS.mono (by omega)).snoc (by omega) (by omega)
  · refine Or.inr (Or.inr ⟨rfl, _, _, hb.own, by simp, by simp; omega, hb.ext⟩)

end Go.Proofs.YtgihpfkjpfanmaaGreat


namespace Go.Proofs.YtgihpfkjpfanmaaGreat
open Go.RowKit

open Classical in
noncomputable def shE (T : Int) (qs : List Rat) : Int := if 128 < qs.length ∨ 281474976710656 < T ∨ T < -281474976710656 then 8 else if ∃ q ∈ qs, q < 0 then 3 else if qsum qs = 0 then 20 else 0
/-- What Share returns. -/
def ShRes (T : Int) (qs : List Rat) (w : World) (e : Ending) (w' : World) : Prop :=
  (shE T qs = 0 ∧ ApGood (shOut T qs) w e w') ∨ (¬ shE T qs = 0 ∧ e = .returned (.tuple #[.slice none 0 0, .int .i64 (shE T qs)]) ∧ Ext w w')
end Go.Proofs.YtgihpfkjpfanmaaGreat


namespace Go.Proofs.YtgihpfkjpfanmaaGreat
open Go

section
variable {P : Program} {ops : Array Oper} {Q : Exit → Act → World → Prop} {md : Region.Mode} {S : World → Prop} {Z : Nat → Bool}

/-- Whatever order is picked; the condition S is shown behind each operation that is not in Z. -/
def wpAnyZ (P : Program) (md : Region.Mode) (ops : Array Oper) (Q : Exit → Act → World → Prop) (S : World → Prop) (Z : Nat → Bool) : Nat → Array Bool → Act → World → Prop
  | 0, ls, a, w => Region.ready md ops ls = [] ∧ Q .normal a w
  | n + 1, ls, a, w => (Region.ready md ops ls = [] → Q .normal a w) ∧
    ∀ i ∈ Region.ready md ops ls, wpOp P ops Q i (fun a' w' => (Z i = false → S w') ∧ wpAnyZ P md ops Q S Z n (ls.setIfInBounds i true) a' w') a w

theorem wpAny_of_Z : ∀ (n : Nat) (ls : Array Bool) (a : Act) (w : World), wpAnyZ P md ops Q S Z n ls a w → wpAny P md ops Q n ls a w
  | 0, _, _, _, h => h
  | n + 1, _, _, _, h => ⟨h.1, fun i hi => wpOp_mono (fun a' w' h' => wpAny_of_Z n _ a' w' h'.2) (h.2 i hi)⟩

/-- Every operation in Z waits for i. -/
def zWaits (md : Region.Mode) (ops : Array Oper) (Z : Nat → Bool) (i : Nat) : Bool :=
  (List.range ops.size).all fun j => !Z j || (match ops[j]? with | some o => o.after.toList.any (fun e => Region.binds md e && e.on == i) | none => true)

theorem zWaits_spec {i : Nat} (h : zWaits md ops Z i = true) : ∀ j oj, ops[j]? = some oj → Z j = true → ∃ e ∈ oj.after, Region.binds md e = true ∧ e.on = i := by
  intro j oj hj hz
  have hl : j < ops.size := (Array.getElem?_eq_some_iff.1 hj).1
  have h1 := List.all_eq_true.1 h j (List.mem_range.2 hl)
  rw [hz, hj] at h1
  simp only [Bool.not_true, Bool.false_or] at h1
  obtain ⟨e, he, h2⟩ := List.any_eq_true.1 h1
  simp only [Bool.and_eq_true, beq_iff_eq] at h2
  exact ⟨e, Array.mem_toList_iff.1 he, h2.1, h2.2⟩

theorem wpAnyZ_first {i : Nat} {oi : Oper} {v : Value} (hi : ops[i]? = some oi) (hsel : ∀ (j : Nat) (o : Oper) cs b, ops[j]? = some o → o.op ≠ .select cs b)
    (hQ : ∀ c a w, Q (.panic c) (a.put oi.dst v) w → Q (.panic c) a w) (hZ : ∀ j oj, ops[j]? = some oj → Z j = true → ∃ e ∈ oj.after, Region.binds md e = true ∧ e.on = i) :
    ∀ (n : Nat) (ls : Array Bool) (a : Act) (w : World),
      (∀ j oj, ops[j]? = some oj → j ≠ i → ls.getD j true = false → (∀ e ∈ oj.after, Region.binds md e = true → e.on ≠ i) → oi.apart ops oj = true) →
      i ∈ Region.ready md ops ls → YieldsIf P ops S oi v a → S w →
      wpAnyZ P md ops Q S Z n (ls.setIfInBounds i true) (a.put oi.dst v) w → wpAnyZ P md ops Q S Z (n + 1) ls a w := by
  intro n
  induction n with
  | zero =>
    intro ls a w _ hr hy hS H
    refine ⟨fun h => (by rw [h] at hr; cases hr), fun j hj => ?_⟩
    by_cases hji : j = i
    · subst hji; exact hy.wpOp hi hS ⟨fun _ => hS, H⟩
    · have := ready_mono hj hji
      rw [H.1] at this
      cases this
  | succ n ih =>
    intro ls a w hfree hr hy hS H
    refine ⟨fun h => (by rw [h] at hr; cases hr), fun j hj => ?_⟩
    by_cases hji : j = i
    · subst hji; exact hy.wpOp hi hS ⟨fun _ => hS, H⟩
    · have h1 := H.2 j (ready_mono hj hji)
      obtain ⟨hjun, oj, hoj, hall⟩ := mem_ready.1 hj
      have hnot : ∀ e ∈ oj.after, Region.binds md e = true → e.on ≠ i := fun e he hb heq => by
        have h1 := hall e he hb
        have h0 := (mem_ready.1 hr).1
        rw [heq] at h1
        rcases Nat.lt_or_ge i ls.size with h' | h'
        · simp [h'] at h0 h1; rw [h0] at h1; cases h1
        · simp [Array.getElem?_eq_none h'] at h1
      have hzj : Z j = false := by
        cases hz : Z j with
        | false => rfl
        | true =>
          obtain ⟨e, he, hb, heq⟩ := hZ j oj hoj hz
          exact absurd heq (hnot e he hb)
      have h2 := wpOp_putIf hoj (hfree j oj hoj hji hjun hnot) (fun cs b => hsel i oi cs b hi) (fun cs b => hsel j oj cs b hoj) hQ hy h1
      have hfree' : ∀ k ok, ops[k]? = some ok → k ≠ i → (ls.setIfInBounds j true).getD k true = false →
          (∀ e ∈ ok.after, Region.binds md e = true → e.on ≠ i) → oi.apart ops ok = true := fun k ok hk hki hun hno => by
        refine hfree k ok hk hki ?_ hno
        by_cases hjk : j = k
        · subst hjk; exact hjun
        · rw [getD_set_ne true hjk] at hun; exact hun
      refine wpOp_mono (fun a' w' h3 => ⟨h3.2.1, ih (ls.setIfInBounds j true) a' w' hfree' (ready_mono hr (Ne.symm hji)) h3.1 (h3.2.1 hzj) ?_⟩) h2
      rw [Array.setIfInBounds_comm _ _ hji]
      exact h3.2.2

/-- Operation i is taken first. -/
theorem wpAnyZ_take {i : Nat} {oi : Oper} {v : Value} {n : Nat} {ls : Array Bool} {a : Act} {w : World} (hi : ops[i]? = some oi)
    (hs : Region.noSelect ops = true) (hf : Region.free md ops ls i = true) (hr : (Region.ready md ops ls).contains i = true) (hz : zWaits md ops Z i = true)
    (hQ : ∀ c a w, Q (.panic c) (a.put oi.dst v) w → Q (.panic c) a w) (hy : YieldsIf P ops S oi v a) (hS : S w)
    (h : wpAnyZ P md ops Q S Z n (ls.setIfInBounds i true) (a.put oi.dst v) w) : wpAnyZ P md ops Q S Z (n + 1) ls a w :=
  wpAnyZ_first hi (Region.noSelect_spec hs) hQ (zWaits_spec hz) n ls a w (Region.free_spec hi hf) (by simpa using hr) hy hS h

def AllReadyZ (P : Program) (md : Region.Mode) (ops : Array Oper) (Q : Exit → Act → World → Prop) (S : World → Prop) (Z : Nat → Bool) (n : Nat) (ls : Array Bool) (a : Act) (w : World) (rs : List Nat) : Prop :=
  ∀ i ∈ rs, wpOp P ops Q i (fun a' w' => (Z i = false → S w') ∧ wpAnyZ P md ops Q S Z n (ls.setIfInBounds i true) a' w') a w
theorem AllReadyZ.nil {n : Nat} {ls : Array Bool} {a : Act} {w : World} : AllReadyZ P md ops Q S Z n ls a w [] := fun _ h => by cases h
/-- An operation comes up behind which S is shown. -/
theorem AllReadyZ.cons {n : Nat} {ls : Array Bool} {a : Act} {w : World} {i : Nat} {o : Oper} {rs : List Nat} (ho : ops[i]? = some o)
    (h : ∀ K' : Act → World → Prop, Shut (∀ a w, S w → (S w → wpAnyZ P md ops Q S Z n (ls.setIfInBounds i true) a w) → K' a w) → if Region.wanted o (yielded ops a.tmps) = true then Oper.wp P o a w K' Q else K' (a.put o.dst undef) w)
    (hs : AllReadyZ P md ops Q S Z n ls a w rs) : AllReadyZ P md ops Q S Z n ls a w (i :: rs) := fun j hj => by
  rcases List.mem_cons.1 hj with rfl | hj
  · exact wpOp_step ho (fun K' hK => h K' (fun a w hS hW => hK a w ⟨fun _ => hS, hW hS⟩))
  · exact hs j hj
/-- A last operation comes up: it may write what the others read. -/
theorem AllReadyZ.last {n : Nat} {ls : Array Bool} {a : Act} {w : World} {i : Nat} {o : Oper} {rs : List Nat} (ho : ops[i]? = some o) (hz : Z i = true)
    (h : ∀ K' : Act → World → Prop, Shut (∀ a w, wpAnyZ P md ops Q S Z n (ls.setIfInBounds i true) a w → K' a w) → if Region.wanted o (yielded ops a.tmps) = true then Oper.wp P o a w K' Q else K' (a.put o.dst undef) w)
    (hs : AllReadyZ P md ops Q S Z n ls a w rs) : AllReadyZ P md ops Q S Z n ls a w (i :: rs) := fun j hj => by
  rcases List.mem_cons.1 hj with rfl | hj
  · exact wpOp_step ho (fun K' hK => h K' (fun a w hW => hK a w ⟨fun e => absurd (hz.symm.trans e) (by decide), hW⟩))
  · exact hs j hj
theorem wpAnyZ_ready {rs : List Nat} {n : Nat} {ls : Array Bool} {a : Act} {w : World} (hr : Region.ready md ops ls = rs) (hne : rs ≠ [])
    (h : AllReadyZ P md ops Q S Z n ls a w rs) : wpAnyZ P md ops Q S Z (n + 1) ls a w := ⟨fun h0 => absurd (hr ▸ h0) hne, hr ▸ h⟩
theorem wpAnyZ_done {ls : Array Bool} {a : Act} {w : World} (hr : Region.ready md ops ls = []) (h : Q .normal a w) : ∀ n, wpAnyZ P md ops Q S Z n ls a w
  | 0 => ⟨hr, h⟩
  | _ + 1 => ⟨fun _ => h, by rw [hr]; simp⟩
/-- The beginning. -/
theorem wp_region_Z {id : Nat} {a : Act} {w : World} (Z : Nat → Bool) (hm : P.follows .mixedOrders = true) (hS : S w.drew)
    (h : S w.drew → wpAnyZ P .any ops Q S Z ops.size (Array.replicate ops.size false) a w.drew) : (Code.region id ops true).wp P Q a w :=
  wp_region_any hm (wpAny_of_Z _ _ _ _ (h hS))
end

end Go.Proofs.YtgihpfkjpfanmaaGreat


namespace Go.Proofs.YtgihpfkjpfanmaaGreat
open Go.RowKit

theorem ratCells_cons (x : RVal) (l : List RVal) : ratCells (x :: l) = .bool x.s :: .slice x.a x.k x.c :: .slice x.b x.j x.d :: ratCells l := rfl

theorem ratCells_put (rs : List RVal) (j : Nat) (r : RVal) : ratCells (rs.set j r) = (((ratCells rs).set (j * 3) (.bool r.s)).set (j * 3 + 1) (.slice r.a r.k r.c)).set (j * 3 + 2) (.slice r.b r.j r.d) := by
  induction rs generalizing j with
  | nil => simp [ratCells]
  | cons x l ih =>
    cases j with
    | zero => simp [ratCells_cons]
    | succ j =>
      rw [List.set_cons_succ, ratCells_cons, ih, ratCells_cons, show (j + 1) * 3 = j * 3 + 3 by omega]
      simp [List.set_cons_succ]

/-- The world after a number is stored. -/
def putRat (w : World) (g j : Nat) (r : RVal) : World := ((w.setCell ⟨g, j * 3, none⟩ (.bool r.s)).setCell ⟨g, j * 3 + 1, none⟩ (.slice r.a r.k r.c)).setCell ⟨g, j * 3 + 2, none⟩ (.slice r.b r.j r.d)

theorem putRat_other (w : World) (g j : Nat) (r : RVal) (k : Nat) (hk : k ≠ g) : (putRat w g j r).heap[k]? = w.heap[k]? := by
  unfold putRat
  rw [Below.heap_setCell _ _ _ _ (by simpa using hk), Below.heap_setCell _ _ _ _ (by simpa using hk), Below.heap_setCell _ _ _ _ (by simpa using hk)]
theorem putRat_ext {w0 w : World} {g : Nat} (h : Ext w0 w) (hg : w0.heap.size ≤ g) (j : Nat) (r : RVal) : Ext w0 (putRat w g j r) :=
  ((h.setCell (p := ⟨g, j * 3, none⟩) hg _).setCell (p := ⟨g, j * 3 + 1, none⟩) hg _).setCell (p := ⟨g, j * 3 + 2, none⟩) hg _

theorem RatRow.put {w wr : World} {g n cap : Nat} {rs : List RVal} {qs : List Rat} {L : Nat} (h : RatRow w wr (.slice (some ⟨g, 0, none⟩) n cap) rs qs L) (j : Nat) {r : RVal} {q : Rat} (hr : IsRat wr r q L) (ho : Off r (some g)) :
    RatRow w (putRat wr g j r) (.slice (some ⟨g, 0, none⟩) n cap) (rs.set j r) (qs.set j q) L := by
  obtain ⟨h1, h2⟩ := h.own
  have hl := h.len
  rcases h2 with ⟨h2, _⟩ | ⟨g', cap', cur, hv, hb, hg, hn, hcap, hcs, htake⟩
  · cases h2
  · cases hv
    have hA : Arr wr g 55 cur.toList := by unfold Arr; simpa using hg
    have hA' : Arr (putRat wr g j r) g 55 (((cur.toList.set (j * 3) (.bool r.s)).set (j * 3 + 1) (.slice r.a r.k r.c)).set (j * 3 + 2) (.slice r.b r.j r.d)) := ((hA.set _ _).set _ _).set _ _
    have hkeep : ∀ k, k < wr.heap.size → some k ≠ some g → (putRat wr g j r).heap[k]? = wr.heap[k]? := fun k _ hne => putRat_other wr g j r k (fun e => hne (by rw [e]))
    refine ⟨by simp [hl], ⟨by rw [ratCells_length], .inr ⟨g, cap, _, by rw [List.length_set], hb, hA', by rw [List.length_set]; exact hn, hcap, by simpa using hcs, ?_⟩⟩, ?_, ?_, putRat_ext h.ext hb j r⟩
    · rw [ratCells_put, List.length_set, ← htake]
      simp [List.take_set]
    · intro k hk
      rw [List.length_set] at hk
      by_cases hkj : j = k
      · subst hkj
        rw [List.getElem_set_self, List.getElem_set_self]
        exact hr.keep hkeep ho
      · rw [List.getElem_set_ne hkj, List.getElem_set_ne hkj]
        exact (h.num k hk).keep hkeep (h.off k hk)
    · intro k hk
      rw [List.length_set] at hk
      by_cases hkj : j = k
      · subst hkj
        rw [List.getElem_set_self]; exact ho
      · rw [List.getElem_set_ne hkj]; exact h.off k hk

end Go.Proofs.YtgihpfkjpfanmaaGreat


namespace Go.Proofs.YtgihpfkjpfanmaaGreat
open Go.RowKit

open Classical in
noncomputable def shN (T : Int) (qs : List Rat) : Nat := if shE T qs = 0 then (shOut T qs).length else 0

theorem ShRes.val {T : Int} {qs : List Rat} {w w' : World} {e : Ending} (h : ShRes T qs w e w') : ∃ pa pc, e = .returned (.tuple #[.slice pa (shN T qs) pc, .int .i64 (shE T qs)]) ∧ (shN T qs = 0 ∨ (shN T qs = (shOut T qs).length ∧ IntsAt w' pa (shOut T qs))) ∧ Ext w w' := by
  rcases h with ⟨h0, b, he, _, hA, hx⟩ | ⟨h0, he, hx⟩
  · have hn : shN T qs = (shOut T qs).length := by unfold shN; rw [if_pos h0]
    refine ⟨some ⟨b, 0, none⟩, (shOut T qs).length, ?_, Or.inr ⟨hn, arr_ints hA⟩, hx⟩
    rw [he, hn, h0]
  · have hn : shN T qs = 0 := by unfold shN; rw [if_neg h0]
    refine ⟨none, 0, ?_, Or.inl hn, hx⟩
    rw [he, hn]
end Go.Proofs.YtgihpfkjpfanmaaGreat


namespace Go.Proofs.YtgihpfkjpfanmaaGreat

def upd (m : Int → Int) (k v : Int) : Int → Int := fun x => if x = k then v else m x
theorem upd_self (m : Int → Int) (k v : Int) : upd m k v k = v := by simp [upd]
theorem upd_other (m : Int → Int) (k v x : Int) (h : x ≠ k) : upd m k v x = m x := by simp [upd, h]

/-- How much of what is missing goes to i. -/
def moreOf (lo hi isl : Nat → Int) (m : Int → Int) (i : Nat) : Int := min (m (isl i)) (hi i - lo i)
/-- What is missing behind i. -/
def fillM (lo hi isl : Nat → Int) (m : Int → Int) (i : Nat) : Int → Int := upd m (isl i) (m (isl i) - moreOf lo hi isl m i)

/-- The sum of the list that is low, and more as long as something is missing, first for the first of the order. -/
def fillSum (t : Nat → Rat) (lo hi isl : Nat → Int) : List Nat → (Int → Int) → Rat
  | [], _ => 0
  | i :: l, m => t i * ((lo i + moreOf lo hi isl m i : Int) : Rat) + fillSum t lo hi isl l (fillM lo hi isl m i)

/-- The sum over an island. -/
def ksum (isl f : Nat → Int) (k : Int) : List Nat → Int
  | [] => 0
  | i :: l => (if isl i = k then f i else 0) + ksum isl f k l

def ssum (f : Int → Int) : List Int → Int
  | [] => 0
  | k :: K => f k + ssum f K

def vsum (t : Nat → Rat) (v : Nat → Int) : List Nat → Rat
  | [] => 0
  | i :: l => t i * ((v i : Int) : Rat) + vsum t v l

theorem ksum_nonneg (isl f : Nat → Int) (k : Int) (l : List Nat) (h : ∀ i ∈ l, 0 ≤ f i) : 0 ≤ ksum isl f k l := by
  induction l with
  | nil => exact Int.le_refl _
  | cons i l ih =>
    have h1 := ih (fun j hj => h j (List.mem_cons_of_mem _ hj))
    have h2 := h i List.mem_cons_self
    unfold ksum
    split <;> omega
theorem ssum_nonneg (f : Int → Int) (K : List Int) (h : ∀ k ∈ K, 0 ≤ f k) : 0 ≤ ssum f K := by
  induction K with
  | nil => exact Int.le_refl _
  | cons k K ih =>
    have h1 := ih (fun j hj => h j (List.mem_cons_of_mem _ hj))
    have h2 := h k List.mem_cons_self
    unfold ssum
    omega
theorem ssum_same (f g : Int → Int) (K : List Int) (h : ∀ k ∈ K, g k = f k) : ssum g K = ssum f K := by
  induction K with
  | nil => rfl
  | cons k K ih =>
    unfold ssum
    rw [h k List.mem_cons_self, ih (fun j hj => h j (List.mem_cons_of_mem _ hj))]
theorem ssum_change (f g : Int → Int) (K : List Int) (hK : K.Nodup) (k0 : Int) (h0 : k0 ∈ K) (h : ∀ k, k ≠ k0 → g k = f k) : ssum g K = ssum f K + (g k0 - f k0) := by
  induction K with
  | nil => simp at h0
  | cons k K ih =>
    obtain ⟨h1, h2⟩ := List.nodup_cons.1 hK
    unfold ssum
    by_cases hk : k = k0
    · subst hk
      rw [ssum_same f g K (fun j hj => h j (fun e => h1 (e ▸ hj)))]
      omega
    · rw [h k hk, ih h2 ((List.mem_cons.1 h0).resolve_left (fun e => hk e.symm))]
      omega
theorem ssum_zero (f : Int → Int) (K : List Int) (h : ∀ k, f k = 0) : ssum f K = 0 := by
  induction K with
  | nil => rfl
  | cons k K ih => unfold ssum; rw [ih, h k]; rfl

theorem fill_core (t : Nat → Rat) (lo hi isl v : Nat → Int) (K : List Int) (hK : K.Nodup) (l : List Nat) :
    ∀ (m M : Int → Int) (τ : Rat), (∀ i ∈ l, isl i ∈ K) → l.Pairwise (fun i j => t i ≤ t j) → (∀ i ∈ l, τ ≤ t i) → (∀ i ∈ l, lo i ≤ v i ∧ v i ≤ hi i) → (∀ k, 0 ≤ m k) → (∀ k, m k ≤ M k) → (∀ k, M k = ksum isl (fun i => v i - lo i) k l) →
      fillSum t lo hi isl l m + τ * ((ssum (fun k => M k - m k) K : Int) : Rat) ≤ vsum t v l := by
  induction l with
  | nil =>
    intro m M τ _ _ _ _ hm hle hM
    have : ssum (fun k => M k - m k) K = 0 := ssum_zero _ _ (fun k => by
      have h1 := hm k; have h2 := hle k; have h3 := hM k
      unfold ksum at h3
      omega)
    rw [this]
    unfold fillSum vsum
    grind
  | cons i l ih =>
    intro m M τ hin hs hτ hv hm hle hM
    obtain ⟨hs1, hs2⟩ := List.pairwise_cons.1 hs
    obtain ⟨hv1, hv2⟩ := hv i List.mem_cons_self
    have hmi := hm (isl i)
    obtain ⟨x, hx⟩ : ∃ x, x = moreOf lo hi isl m i := ⟨_, rfl⟩
    have hx' := hx
    unfold moreOf at hx'
    obtain ⟨y, hy⟩ : ∃ y, y = v i - lo i := ⟨_, rfl⟩
    have hMi : ∀ k, ksum isl (fun i => v i - lo i) k l = M k - (if isl i = k then y else 0) := by
      intro k
      have := hM k
      unfold ksum at this
      simp only [← hy] at this
      split at this <;> rename_i h <;> simp only [h, if_true, if_false] <;> omega
    have hnn : ∀ k, 0 ≤ ksum isl (fun i => v i - lo i) k l := fun k => ksum_nonneg _ _ _ _ (fun j hj => by have := hv j (List.mem_cons_of_mem _ hj); omega)
    have hm' : ∀ k, 0 ≤ fillM lo hi isl m i k := by
      intro k
      unfold fillM
      rw [← hx]
      by_cases hk : k = isl i
      · rw [hk, upd_self]; omega
      · rw [upd_other _ _ _ _ hk]; exact hm k
    have hle' : ∀ k, fillM lo hi isl m i k ≤ M k - (if isl i = k then y else 0) := by
      intro k
      unfold fillM
      rw [← hx]
      by_cases hk : k = isl i
      · subst hk
        rw [upd_self, if_pos rfl]
        have h1 := hnn (isl i)
        rw [hMi, if_pos rfl] at h1
        have h2 := hle (isl i)
        omega
      · rw [upd_other _ _ _ _ hk, if_neg (fun e => hk e.symm)]
        have := hle k
        omega
    have hi' := ih (fillM lo hi isl m i) (fun k => M k - (if isl i = k then y else 0)) (t i) (fun j hj => hin j (List.mem_cons_of_mem _ hj)) hs2 hs1 (fun j hj => hv j (List.mem_cons_of_mem _ hj)) hm' hle' (fun k => (hMi k).symm)
    have hS := ssum_change (fun k => M k - m k) (fun k => (M k - (if isl i = k then y else 0)) - fillM lo hi isl m i k) K hK (isl i) (hin i List.mem_cons_self) (by
      intro k hk
      show M k - (if isl i = k then y else 0) - fillM lo hi isl m i k = M k - m k
      unfold fillM
      rw [if_neg (fun e => hk e.symm), upd_other _ _ _ _ hk]
      omega)
    have hS0 := ssum_nonneg (fun k => M k - m k) K (fun k _ => by have := hle k; show 0 ≤ M k - m k; omega)
    have e1 : (M (isl i) - (if isl i = isl i then y else 0)) - fillM lo hi isl m i (isl i) - (M (isl i) - m (isl i)) = x - y := by
      unfold fillM
      rw [if_pos rfl, upd_self, ← hx]
      omega
    have hS' : ssum (fun k => (M k - (if isl i = k then y else 0)) - fillM lo hi isl m i k) K = ssum (fun k => M k - m k) K + (x - y) := by rw [hS, ← e1]
    rw [hS'] at hi'
    clear hS hS'
    generalize ssum (fun k => M k - m k) K = S at *
    have hτi := hτ i List.mem_cons_self
    unfold fillSum vsum
    rw [← hx]
    have e2 : (v i : Int) = lo i + y := by omega
    rw [e2]
    generalize fillSum t lo hi isl l (fillM lo hi isl m i) = F at *
    generalize vsum t v l = V at *
    generalize t i = a at *
    have hSq : (0 : Rat) ≤ ((S : Int) : Rat) := Rat.intCast_nonneg.2 hS0
    have h5 : τ * ((S : Int) : Rat) ≤ a * ((S : Int) : Rat) := Rat.mul_le_mul_of_nonneg_right hτi hSq
    have e3 : ((S + (x - y) : Int) : Rat) = ((S : Int) : Rat) + ((x : Int) : Rat) - ((y : Int) : Rat) := by push_cast; grind
    have e4 : ((lo i + x : Int) : Rat) = ((lo i : Int) : Rat) + ((x : Int) : Rat) := by push_cast; rfl
    have e5 : ((lo i + y : Int) : Rat) = ((lo i : Int) : Rat) + ((y : Int) : Rat) := by push_cast; rfl
    rw [e3] at hi'
    rw [e4, e5]
    grind

/-- No list in the box has a lesser sum. -/
theorem fill_least (t : Nat → Rat) (lo hi isl v : Nat → Int) (K : List Int) (hK : K.Nodup) (l : List Nat) (m : Int → Int) (hin : ∀ i ∈ l, isl i ∈ K) (hs : l.Pairwise (fun i j => t i ≤ t j)) (hv : ∀ i ∈ l, lo i ≤ v i ∧ v i ≤ hi i) (hm : ∀ k, m k = ksum isl (fun i => v i - lo i) k l) :
    fillSum t lo hi isl l m ≤ vsum t v l := by
  have hm0 : ∀ k, 0 ≤ m k := fun k => by rw [hm k]; exact ksum_nonneg _ _ _ _ (fun j hj => by have := hv j hj; omega)
  match l, hs, hin, hv, hm with
  | [], _, _, _, _ => unfold fillSum vsum; grind
  | i :: l, hs, hin, hv, hm =>
    have h1 := fill_core t lo hi isl v K hK (i :: l) m m (t i) hin hs (by
      intro j hj
      rcases List.mem_cons.1 hj with rfl | hj
      · exact Rat.le_refl
      · exact (List.pairwise_cons.1 hs).1 j hj) hv hm0 (fun k => Int.le_refl _) hm
    rw [ssum_zero _ _ (fun k => Int.sub_self _)] at h1
    have e : t i * (((0 : Int)) : Rat) = 0 := by grind
    rw [e] at h1
    grind

theorem fillSum_neg (t : Nat → Rat) (lo hi isl : Nat → Int) (l : List Nat) : ∀ m, fillSum (fun i => -(t i)) lo hi isl l m = -(fillSum t lo hi isl l m) := by
  induction l with
  | nil => intro m; unfold fillSum; grind
  | cons i l ih => intro m; unfold fillSum; rw [ih]; grind
theorem vsum_neg (t : Nat → Rat) (v : Nat → Int) (l : List Nat) : vsum (fun i => -(t i)) v l = -(vsum t v l) := by
  induction l with
  | nil => unfold vsum; grind
  | cons i l ih => unfold vsum; rw [ih]; grind

/-- No list in the box has a greater sum. -/
theorem fill_greatest (t : Nat → Rat) (lo hi isl v : Nat → Int) (K : List Int) (hK : K.Nodup) (l : List Nat) (m : Int → Int) (hin : ∀ i ∈ l, isl i ∈ K) (hs : l.Pairwise (fun i j => t j ≤ t i)) (hv : ∀ i ∈ l, lo i ≤ v i ∧ v i ≤ hi i) (hm : ∀ k, m k = ksum isl (fun i => v i - lo i) k l) :
    vsum t v l ≤ fillSum t lo hi isl l m := by
  have h1 := fill_least (fun i => -(t i)) lo hi isl v K hK l m hin (hs.imp (fun h => by grind)) hv hm
  rw [fillSum_neg, vsum_neg] at h1
  grind

theorem ksum_perm (isl f : Nat → Int) (k : Int) {l l' : List Nat} (h : l.Perm l') : ksum isl f k l = ksum isl f k l' := by
  induction h with
  | nil => rfl
  | cons x _ ih => unfold ksum; rw [ih]
  | swap x y l => unfold ksum; unfold ksum; omega
  | trans _ _ h1 h2 => exact h1.trans h2
theorem vsum_perm (t : Nat → Rat) (v : Nat → Int) {l l' : List Nat} (h : l.Perm l') : vsum t v l = vsum t v l' := by
  induction h with
  | nil => rfl
  | cons x _ ih => unfold vsum; rw [ih]
  | swap x y l => unfold vsum; unfold vsum; grind
  | trans _ _ h1 h2 => exact h1.trans h2

end Go.Proofs.YtgihpfkjpfanmaaGreat


namespace Go.Proofs.YtgihpfkjpfanmaaGreat
open Go.RowKit Go.Maps Go.ChangeMaps Go.MapKept

theorem Tryz.keyI : Keyed Tryz.prog 3 := int_keyed Tryz.underlying3
theorem Tryz.zeroI (w : World) : (zeroValue 3).run Tryz.prog w = .ok (.int .i64 0) w := by kernel_rfl

def isI64 (k : Int) : Prop := -9223372036854775808 ≤ k ∧ k < 9223372036854775808
theorem isI64.wf {k : Int} (h : isI64 k) : (Lit.int .i64 k).wf = true := by
  obtain ⟨h1, h2⟩ := h
  simp [Lit.wf, IntKind.min, IntKind.max, IntKind.signed, IntKind.bits]
  omega
theorem isI64_of_wf {k : Int} (h : (Lit.int .i64 k).wf = true) : isI64 k := by
  simp [Lit.wf, IntKind.min, IntKind.max, IntKind.signed, IntKind.bits] at h
  exact ⟨by omega, by omega⟩

/-- w' is w but for the block b and some draws. -/
structure Turn (b : Nat) (w w' : World) : Prop where
  os : w'.os = w.os
  tape : w'.tape = w.tape
  output : w'.output = w.output
  drawn : w.drawn ≤ w'.drawn
  size : w'.heap.size = w.heap.size
  block : ∀ k, k ≠ b → w'.heap[k]? = w.heap[k]?
theorem Turn.ext {b : Nat} {w0 w w' : World} (t : Turn b w w') (h : Ext w0 w) (hb : w0.heap.size ≤ b) : Ext w0 w' :=
  ⟨⟨t.os.trans h.below.os, t.tape.trans h.below.tape, t.output.trans h.below.output, by rw [t.size]; exact h.size, fun k hk => by rw [t.block k (by omega)]; exact h.below.block k hk⟩, Nat.le_trans h.drawn t.drawn⟩
theorem Turn.cell {b : Nat} {w w' : World} (t : Turn b w w') {p : Addr} {v : Value} (hp : p.block ≠ b) (h : w.cell? p = some v) : w'.cell? p = some v := by
  unfold World.cell? at *
  rw [t.block _ hp]; exact h
theorem Turn.arr {b g : Nat} {w w' : World} (t : Turn b w w') {T : TypeId} {vs : List Value} (hg : g ≠ b) (h : Arr w g T vs) : Arr w' g T vs := by
  unfold Arr; rw [t.block _ hg]; exact h
theorem turned_turn {b : Nat} {w w' : World} (h : w.mapTurned w' b) : Turn b w w' := by
  have g := h.grown
  obtain ⟨es, clock, es', clock', hb, rfl⟩ := h
  exact ⟨rfl, rfl, rfl, Nat.le_refl _, by simp [setBlock], fun k hk => heap_setBlock_other hb _ hk⟩

/-- Block b of w is a map of at most n entries: its keys are those with K, its values are f (0 where there is no key). -/
def IMap (w : World) (b n : Nat) (K : Int → Prop) (f : Int → Int) : Prop :=
  ∃ D : DataW Unit, w.ownsMap Tryz.prog 3 (plainElem Tryz.prog 3) b n D ∧ (∀ k, (Maps.has D (.int .i64 k) = true ↔ K k)) ∧ ∀ k, D.atKey (.int .i64 k) (.lit (.int .i64 0)) = .lit (.int .i64 (f k))

theorem IMap.made (w : World) : IMap (w.alloc (.map #[] 0)) w.heap.size 0 (fun _ => False) (fun _ => 0) :=
  ⟨.map [], World.ownsMap_made _ _ _ _, fun k => by simp [Maps.has], fun k => by simp [DataW.atKey]⟩
theorem IMap.lt {w : World} {b n : Nat} {K : Int → Prop} {f : Int → Int} (h : IMap w b n K f) : b < w.heap.size := by obtain ⟨D, h1, _⟩ := h; exact h1.lt
theorem IMap.same {w w' : World} {b n : Nat} {K : Int → Prop} {f : Int → Int} (h : IMap w b n K f) (e : w'.heap[b]? = w.heap[b]?) : IMap w' b n K f := by
  obtain ⟨D, ⟨es, clock, hb, r⟩, h2⟩ := h
  exact ⟨D, ⟨es, clock, by rw [e]; exact hb, r⟩, h2⟩
theorem IMap.ext {w w' : World} {b n : Nat} {K : Int → Prop} {f : Int → Int} (h : IMap w b n K f) (e : Ext w w') : IMap w' b n K f := h.same (e.below.block b h.lt)
theorem IMap.turn {w w' : World} {b g n : Nat} {K : Int → Prop} {f : Int → Int} (h : IMap w b n K f) (t : Turn g w w') (hg : b ≠ g) : IMap w' b n K f := h.same (t.block b hg)
theorem IMap.setCell {w : World} {b n : Nat} {K : Int → Prop} {f : Int → Int} (h : IMap w b n K f) (p : Addr) (v : Value) (hp : b ≠ p.block) : IMap (w.setCell p v) b n K f := h.same (Below.heap_setCell _ _ _ _ (by omega))
theorem IMap.keys {w : World} {b n : Nat} {K K' : Int → Prop} {f f' : Int → Int} (h : IMap w b n K f) (hK : ∀ k, K k ↔ K' k) (hf : ∀ k, f k = f' k) : IMap w b n K' f' := by
  obtain ⟨D, h1, h2, h3⟩ := h
  exact ⟨D, h1, fun k => (h2 k).trans (hK k), fun k => by rw [h3, hf]⟩

theorem IMap.look {w : World} {b n : Nat} {K : Int → Prop} {f : Int → Int} (h : IMap w b n K f) {k : Int} (hk : isI64 k) : (Instr.lookup 114 (.map (some b)) (.int .i64 k) false).run Tryz.prog w = .ok (.int .i64 (f k)) w := by
  obtain ⟨D, h1, h2, h3⟩ := h
  obtain ⟨c, hr, hc, _⟩ := h1.lookup_int Tryz.keyI Tryz.underlying114 Tryz.underlying3 (Tryz.zeroI w) (keyOf_int_mk Tryz.underlying3 hk.wf)
  rw [h3 k] at hc
  cases hc
  exact hr

theorem isKeyI {k : Int} : WideAt.IsKeyLit (.int .i64 k) := trivial
theorem int_ne {k x : Int} (h : x ≠ k) : Lit.int .i64 x ≠ Lit.int .i64 k := fun e => h (by cases e; rfl)

theorem IMap.store {w : World} {b n : Nat} {K : Int → Prop} {f : Int → Int} (h : IMap w b n K f) (hn : n < 1000000) {k v : Int} (hk : isI64 k) (hv : isI64 v) :
    ∃ w', (Instr.mapUpdate 114 (.map (some b)) (.int .i64 k) (.int .i64 v)).run Tryz.prog w = .ok () w' ∧ IMap w' b (n + 1) (fun x => x = k ∨ K x) (upd f k v) ∧ Turn b w w' := by
  obtain ⟨D, h1, h2, h3⟩ := h
  obtain ⟨w', hr, ho, ht⟩ := h1.store Tryz.keyI Tryz.underlying114 (by unfold maxLen; omega) (keyOf_int_mk Tryz.underlying3 hk.wf) (plainElem_int Tryz.underlying3 hv.wf)
  have hm := h1.isMap
  refine ⟨w', hr, ⟨_, ho, fun x => ?_, fun x => ?_⟩, turned_turn ht⟩
  · by_cases hx : x = k
    · subst hx
      rw [has_put_same hm isKeyI]
      simp
    · rw [has_put_other (int_ne hx), h2 x]
      simp [hx]
  · by_cases hx : x = k
    · subst hx
      rw [atKey_put_same hm isKeyI, upd_self]
    · rw [atKey_put_other (int_ne hx), h3 x, upd_other _ _ _ _ hx]

section
variable {ops : Array Oper} {rest : List Oper} {o : Oper} {a : Act} {Q : Exit → Act → World → Prop}

/-- 'm[k]'. -/
theorem wpList_look_imap (w : World) (hg : o.guard = none) (m x : Operand) (hop : o.op = Op.lookup 114 m x false) (b n : Nat) (K : Int → Prop) (f : Int → Int) (k : Int)
    (hm : a.eval m = .map (some b)) (hx : a.eval x = .int .i64 k) (h : IMap w b n K f) (hk : isI64 k) (hK : wpList Tryz.prog ops Q rest (a.put o.dst (.int .i64 (f k))) w) : wpList Tryz.prog ops Q (o :: rest) a w := by
  refine wpList_plain hg fun K' hK' => ?_
  have hrun := h.look hk
  unfold Oper.wp
  simp [execOp, hop, hm, hx, hrun, Result.andThen]
  exact hK' _ _ hK

/-- 'm[k] = v'. -/
theorem wp_store_imap {K' : Act → World → Prop} (w : World) (m x v : Operand) (hop : o.op = Op.mapUpdate 114 m x v) (b n : Nat) (K : Int → Prop) (f : Int → Int) (k u : Int)
    (hm : a.eval m = .map (some b)) (hx : a.eval x = .int .i64 k) (hv : a.eval v = .int .i64 u) (h : IMap w b n K f) (hn : n < 1000000) (hk : isI64 k) (hu : isI64 u)
    (hK : ∀ w', IMap w' b (n + 1) (fun x => x = k ∨ K x) (upd f k u) → Turn b w w' → K' (a.put o.dst undef) w') : Oper.wp Tryz.prog o a w K' Q := by
  obtain ⟨w', hrun, r1, r2⟩ := h.store hn hk hu
  unfold Oper.wp
  simp [execOp, hop, hm, hx, hv, hrun, Result.andThen]
  exact hK w' r1 r2
theorem wpList_store_imap (w : World) (hg : o.guard = none) (m x v : Operand) (hop : o.op = Op.mapUpdate 114 m x v) (b n : Nat) (K : Int → Prop) (f : Int → Int) (k u : Int)
    (hm : a.eval m = .map (some b)) (hx : a.eval x = .int .i64 k) (hv : a.eval v = .int .i64 u) (h : IMap w b n K f) (hn : n < 1000000) (hk : isI64 k) (hu : isI64 u)
    (hK : ∀ w', IMap w' b (n + 1) (fun x => x = k ∨ K x) (upd f k u) → Turn b w w' → wpList Tryz.prog ops Q rest (a.put o.dst undef) w') : wpList Tryz.prog ops Q (o :: rest) a w :=
  wpList_plain hg fun _ hK' => wp_store_imap w m x v hop b n K f k u hm hx hv h hn hk hu (fun w' h1 h2 => hK' _ _ (hK w' h1 h2))
end

/-- 'for k, v := range m' under way: left: the keys that are still to come. -/
def IRange (w : World) (b r n : Nat) (K : Int → Prop) (f : Int → Int) (left : Int → Prop) (cnt : Nat) : Prop :=
  ∃ (D : DataW Unit) (lf : Lit → Bool), w.ranges Tryz.prog 3 (plainElem Tryz.prog 3) b r n D lf cnt ∧ (∀ k, (Maps.has D (.int .i64 k) = true ↔ K k)) ∧ (∀ k, D.atKey (.int .i64 k) (.lit (.int .i64 0)) = .lit (.int .i64 (f k))) ∧ ∀ k, (lf (.int .i64 k) = true ↔ left k)

theorem IRange.imap {w : World} {b r n cnt : Nat} {K left : Int → Prop} {f : Int → Int} (h : IRange w b r n K f left cnt) : IMap w b n K f := by
  obtain ⟨D, lf, h1, h2, h3, _⟩ := h; exact ⟨D, h1.owns, h2, h3⟩
theorem IRange.left_eq {w : World} {b r n cnt : Nat} {K left : Int → Prop} {f : Int → Int} (h : IRange w b r n K f left cnt) : w.rangeLeft b r = cnt := by
  obtain ⟨D, lf, h1, _⟩ := h; exact h1.left_eq
theorem IRange.ne {w : World} {b r n cnt : Nat} {K left : Int → Prop} {f : Int → Int} (h : IRange w b r n K f left cnt) : r ≠ b := by
  obtain ⟨D, lf, h1, _⟩ := h; exact h1.ne

theorem ranges_next_drawn {w w' : World} {b r n cnt : Nat} {D : DataW Unit} {lf : Lit → Bool} {ty : TypeId} {v : Value} (h : w.ranges Tryz.prog 3 (plainElem Tryz.prog 3) b r n D lf cnt)
    (hrun : (Instr.next (.pointer (some ⟨r, 0, none⟩)) false ty).run Tryz.prog w = .ok v w') : w.drawn ≤ w'.drawn := by
  obtain ⟨es, clock, since, seen, c0, hb, F, hs, rfl, hr, hold, _, _, _, hsc, _⟩ := h
  rcases run_next_at (P := Tryz.prog) w ty r b since c0 seen es clock hr hb hold hsc with ⟨_, h2⟩ | ⟨e, _, w1, hw, h2⟩
  · rw [hrun] at h2; cases h2; exact Nat.le_refl _
  · rw [hrun] at h2; cases h2
    rcases hw with rfl | rfl
    · exact Nat.le_refl _
    · exact Nat.le_succ _

section
variable {ops : Array Oper} {rest : List Oper} {o : Oper} {a : Act} {Q : Exit → Act → World → Prop}

theorem wpList_range_imap (w : World) (hg : o.guard = none) (m : Operand) (hop : o.op = Op.range 114 m) (b n : Nat) (K : Int → Prop) (f : Int → Int) (hm : a.eval m = .map (some b)) (h : IMap w b n K f)
    (hK : ∀ w' cnt, IRange w' b w.heap.size n K f K cnt → Ext w w' → w'.heap.size = w.heap.size + 1 → wpList Tryz.prog ops Q rest (a.put o.dst (.pointer (some ⟨w.heap.size, 0, none⟩))) w') :
    wpList Tryz.prog ops Q (o :: rest) a w := by
  obtain ⟨D, h1, h2, h3⟩ := h
  refine wpList_plain hg fun K' hK' => ?_
  obtain ⟨w', hrun, r1, r2, r3⟩ := h1.range Tryz.keyI Tryz.underlying114
  have hx : Ext w w' := by
    obtain ⟨es, clock, hb, _⟩ := h1
    rw [run_range_map w 114 3 3 b es clock Tryz.underlying114 hb] at hrun
    cases hrun
    exact (Ext.refl _).alloc _
  unfold Oper.wp
  simp [execOp, hop, hm, hrun, Result.andThen]
  exact hK' _ _ (hK w' _ ⟨D, _, r1, h2, h3, h2⟩ hx r3)

theorem wpList_next_imap (w : World) (hg : o.guard = none) (it : Operand) (hop : o.op = Op.next it false) (b r n : Nat) (K : Int → Prop) (f : Int → Int) (left : Int → Prop) (cnt : Nat) (hit : a.eval it = .pointer (some ⟨r, 0, none⟩)) (h : IRange w b r n K f left cnt)
    (hDone : (∀ k, ¬ left k) → wpList Tryz.prog ops Q rest (a.put o.dst (.tuple #[.bool false])) w)
    (hMore : ∀ (x : Int) (w' : World) (cnt' : Nat), isI64 x → left x → isI64 (f x) → IRange w' b r n K f (fun k => left k ∧ k ≠ x) cnt' → cnt' < cnt → Turn r w w' → (Instr.entry (.pointer (some ⟨r, 0, none⟩))).run Tryz.prog w' = .ok (.tuple #[.int .i64 x, .int .i64 (f x)]) w' →
      wpList Tryz.prog ops Q rest (a.put o.dst (.tuple #[.bool true, .int .i64 x, .int .i64 (f x)])) w') :
    wpList Tryz.prog ops Q (o :: rest) a w := by
  obtain ⟨D, lf, h1, h2, h3, h4⟩ := h
  refine wpList_plain hg fun K' hK' => ?_
  unfold Oper.wp
  rcases h1.next Tryz.keyI o.type with ⟨h0, hl, hrun⟩ | ⟨key, v, kl, y, w', cnt', hkey, hlk, hv, hat, hrun, hrg, hlt, hgr, hsz, hen⟩
  · simp [execOp, hop, hit, hrun, Result.andThen]
    exact hK' _ _ (hDone (fun k hk => by have := (h4 k).2 hk; rw [hl] at this; cases this))
  · obtain ⟨x, rfl, rfl, hwx⟩ := Maps.keyOf_int_inv Tryz.underlying3 hkey
    obtain ⟨c, rfl, rfl, hwc⟩ := plainElem_int_inv Tryz.underlying3 hv
    have hcf : c = f x := by
      have e1 := h3 x
      rw [hat] at e1
      cases e1; rfl
    subst hcf
    have hdr := ranges_next_drawn h1 hrun
    simp [execOp, hop, hit, hrun, Result.andThen]
    refine hK' _ _ (hMore x w' cnt' (isI64_of_wf hwx) ((h4 x).1 hlk) (isI64_of_wf hwc) ⟨D, _, hrg, h2, h3, fun k => ?_⟩ hlt ⟨hgr.os, hgr.tape, hgr.output, hdr, hsz, fun k hk => ?_⟩ hen)
    · by_cases hk : k = x
      · subst hk
        rw [WideAt.sameKey_self isKeyI]
        simp
      · rw [sameKey_ne (int_ne hk)]
        simp [hk, h4 k]
    · by_cases hlt' : k < w.heap.size
      · exact hgr.block k hlt' (fun e => hk (by cases e; rfl))
      · rw [Array.getElem?_eq_none (by omega), Array.getElem?_eq_none (by omega)]
end

end Go.Proofs.YtgihpfkjpfanmaaGreat
