/- Texts of the proof: Sd5, Sd6, Sd7. -/
import Derived.Deep.DeepCutAuto
import Derived.Deep.CutBlock
import Derived.IntWalk
import Derived.Test.YtgihpfkjpfanmaaGreatRows
import Derived.Laws.AppendOwnNone
import Derived.Deep.LoopGhost
import Derived.Deep.Slices
import Derived.Deep.RegionHeld
import Derived.KernelRfl
import Derived.WalkKit
import Derived.WalkSpells
import Derived.Sort.Grow
import Derived.Lib.Hide
import Derived.Laws.CopyOwn
import Derived.Laws.BitsAllLaws
import Derived.Deep.QuietTactic
import Derived.BigQuiet
import Derived.WalkLawsBesides
import Derived.Deep.RegionWith
import Derived.Deep.RegionHeld3
import Derived.Test.YtgihpfkjpfanmaaGreatProg
import Derived.Shelf.SlSortCmp.NoneTotal
import Derived.Maps.RangeWalk
import Derived.Maps.OwnSet
import Derived.Maps.OwnOps
import Derived.Maps.Views
import Derived.Lib.MinMax
import Derived.Shelf.SlMaps.Clone
import Derived.Shelf.SlicesE.Reverse
import Derived.Test.YtgihpfkjpfanmaaGreatChecked
import Derived.Lib.Strings
import Derived.Lib.Slices
import Derived.Lib.Small
import Derived.Lib.Walk
import Derived.Lib.BitFns
import Derived.ProofKit
import Derived.OpenShut
import Derived.ShutString
import Derived.ChangeOld
import Derived.Below
import Derived.Test.YtgihpfkjpfanmaaGreatQi1
import Derived.Test.YtgihpfkjpfanmaaGreatQi2
import Derived.Test.YtgihpfkjpfanmaaGreatQi3
import Derived.Test.YtgihpfkjpfanmaaGreatQi4
import Derived.Test.YtgihpfkjpfanmaaGreatQi5
import Derived.Test.YtgihpfkjpfanmaaGreatQi6
import Derived.Test.YtgihpfkjpfanmaaGreatQi7
import Derived.Test.YtgihpfkjpfanmaaGreatQi8
import Derived.Test.YtgihpfkjpfanmaaGreatQi9
import Derived.Test.YtgihpfkjpfanmaaGreatQi10
import Derived.Test.YtgihpfkjpfanmaaGreatQi11
import Derived.Test.YtgihpfkjpfanmaaGreatQi12
import Derived.Test.YtgihpfkjpfanmaaGreatQi13
import Derived.Test.YtgihpfkjpfanmaaGreatQi14
import Derived.Test.YtgihpfkjpfanmaaGreatQi15
import Derived.Test.YtgihpfkjpfanmaaGreatQi16
import Derived.Test.YtgihpfkjpfanmaaGreatQi17
import Derived.Test.YtgihpfkjpfanmaaGreatQi18
import Derived.Test.YtgihpfkjpfanmaaGreatQi19
import Derived.Test.YtgihpfkjpfanmaaGreatQi20
import Derived.Test.YtgihpfkjpfanmaaGreatQi21
namespace Go.Proofs.YtgihpfkjpfanmaaGreat
open Go.RowKit

/-- There is an answer. -/
def Good (qs : List Rat) (lo hi isl : List Int) : Prop :=
  qs.length ≤ 32 ∧ lo.length = qs.length ∧ hi.length = qs.length ∧ isl.length = qs.length ∧ (∀ i, i < qs.length → (-1073741824 ≤ at0 lo i ∧ at0 lo i ≤ 1073741824) ∧ -1073741824 ≤ at0 hi i ∧ at0 hi i ≤ 1073741824) ∧ ∀ k, keyP (at0 isl) qs.length k → OkI qs.length (at0 isl) (at0 lo) (at0 hi) k
/-- The answer. -/
def Ans (qs : List Rat) (lo hi isl : List Int) (b : Bool) (p q : Rat) : Prop :=
  (b = true ∧ Good qs lo hi isl ∧ Best qs.length (fun i => -(atQ qs i)) (at0 isl) (at0 lo) (at0 hi) (-p) ∧ Best qs.length (atQ qs) (at0 isl) (at0 lo) (at0 hi) q) ∨ (b = false ∧ ¬ Good qs lo hi isl ∧ p = 0 ∧ q = 0)
theorem Ans.unique {qs : List Rat} {lo hi isl : List Int} {b b' : Bool} {p p' q q' : Rat} (h : Ans qs lo hi isl b p q) (h' : Ans qs lo hi isl b' p' q') : b = b' ∧ p = p' ∧ q = q' := by
  rcases h with ⟨rfl, h1, h2, h3⟩ | ⟨rfl, h1, rfl, rfl⟩ <;> rcases h' with ⟨rfl, g1, g2, g3⟩ | ⟨rfl, g1, rfl, rfl⟩
  · refine ⟨rfl, ?_, h3.unique g3⟩
    have := h2.unique g2
    grind
  · exact absurd h1 g1
  · exact absurd g1 h1
  · exact ⟨rfl, rfl, rfl⟩
def ExAns (w : World) (qs : List Rat) (lo hi isl : List Int) (e : Ending) (w' : World) : Prop :=
  Ext w w' ∧ ∃ (r1 r2 : RVal) (b : Bool) (p q : Rat), e = .returned (.tuple #[.agg #[.bool r1.s, .slice r1.a r1.k r1.c, .slice r1.b r1.j r1.d], .agg #[.bool r2.s, .slice r2.a r2.k r2.c, .slice r2.b r2.j r2.d], .bool b]) ∧ IsRat w' r1 p 2000000 ∧ IsRat w' r2 q 2000000 ∧ (r1.k ≤ 2000000 ∧ r1.j ≤ 2000000) ∧ (r2.k ≤ 2000000 ∧ r2.j ≤ 2000000) ∧ Ans qs lo hi isl b p q

theorem first_no (P : Nat → Prop) (n : Nat) (h : ¬ ∀ i, i < n → P i) : ∃ i, i < n ∧ ¬ P i ∧ ∀ j, j < i → P j := by
  induction n with
  | zero => exact absurd (fun i hi => absurd hi (Nat.not_lt_zero _)) h
  | succ n ih =>
    by_cases hn : ∀ i, i < n → P i
    · refine ⟨n, Nat.lt_succ_self _, fun hp => h (fun i hi => ?_), hn⟩
      by_cases hi' : i = n
      · subst hi'; exact hp
      · exact hn i (by omega)
    · obtain ⟨i, h1, h2, h3⟩ := ih hn
      exact ⟨i, by omega, h2, h3⟩

theorem exNo_ans {w : World} {qs : List Rat} {lo hi isl : List Int} {e : Ending} {w' : World} (h : ExNo w e w') (hg : ¬ Good qs lo hi isl) : ExAns w qs lo hi isl e w' :=
  ⟨h.2, ⟨false, none, 0, 0, none, 0, 0⟩, ⟨false, none, 0, 0, none, 0, 0⟩, false, 0, 0, h.1, isRat_zero _ _, isRat_zero _ _, ⟨Nat.zero_le _, Nat.zero_le _⟩, ⟨Nat.zero_le _, Nat.zero_le _⟩, Or.inr ⟨rfl, hg, rfl, rfl⟩⟩

theorem sc_all (w : World) (ta la ha ia : Option Addr) (tc lc hc ic L : Nat) (rs : List RVal) (qs : List Rat) (lo hi isl : List Int)
    (hR : Rats w ta tc rs qs L) (hlo : IntIn w la lc lo) (hhi : IntIn w ha hc hi) (hil : IntIn w ia ic isl) (hL : L ≤ 1000) (l0 : rs.length ≤ 100000) (l1 : lo.length ≤ 100000) (l2 : hi.length ≤ 100000) (l3 : isl.length ≤ 100000) :
    Calls Tryz.prog 25 #[.slice ta rs.length tc, .slice la lo.length lc, .slice ha hi.length hc, .slice ia isl.length ic] w fun e w' => ExAns w qs lo hi isl e w' := by
  have hql := hR.len
  by_cases hlen : rs.length ≤ 32 ∧ lo.length = rs.length ∧ hi.length = rs.length ∧ isl.length = rs.length
  rotate_left
  · exact (sc_extreme_len w ta la ha ia tc lc hc ic _ _ _ _ ⟨l0, l1, l2, l3⟩ (by omega)).mono fun e w' h => exNo_ans h (by rintro ⟨h1, h2, h3, h4, _⟩; omega)
  obtain ⟨hn, n2, n3, n4⟩ := hlen
  rw [n2, n3, n4]
  by_cases hbox : BoxOk (at0 lo) (at0 hi) rs.length
  rotate_left
  · obtain ⟨i0, h1, h2, h3⟩ := first_no _ _ hbox
    refine (sc_extreme_bnd w ta la ha ia tc lc hc ic L rs.length rs qs lo hi isl hR hlo hhi hil rfl n2 n3 n4 hn hL i0 h1 h3 h2).mono fun e w' h => exNo_ans h ?_
    rintro ⟨_, _, _, _, g5, g6⟩
    have a1 := g5 i0 (by omega)
    have a2 := (g6 (at0 isl i0) ⟨i0, by omega, rfl⟩).1 i0 (by omega) rfl
    exact h2 ⟨by omega, a2, by omega⟩
  by_cases hg : ∀ k, keyP (at0 isl) rs.length k → 0 ≤ missF (at0 lo) (at0 isl) rs.length k ∧ missF (at0 lo) (at0 isl) rs.length k ≤ roomF (at0 lo) (at0 hi) (at0 isl) rs.length k
  · refine (sc_extreme_ok w ta la ha ia tc lc hc ic L rs.length rs qs lo hi isl hR hlo hhi hil rfl n2 n3 n4 hn hL hbox hg).mono ?_
    rintro e w' ⟨r1, r2, rfl, h1, h2, hx⟩
    have hm0 : ∀ k, 0 ≤ missF (at0 lo) (at0 isl) rs.length k := by
      intro k
      by_cases hk : keyP (at0 isl) rs.length k
      · exact (hg k hk).1
      · unfold missF
        rw [ksum_none _ _ _ _ (fun j hj e => hk ⟨j, List.mem_range.1 hj, e⟩)]; omega
    have hsz : ∀ i, i < rs.length → rsz (atQ qs i) ≤ 1000 := by
      intro i hi'
      rw [atQ_eq (by omega)]
      have := (hR.num i hi').rsz
      omega
    have hp : (scOrder qs rs.length).reverse.Perm (List.range rs.length) := (List.reverse_perm _).trans (scOrder_perm qs rs.length)
    have z1 := fillSum_rsz (atQ qs) (at0 lo) (at0 hi) (at0 isl) 1000 (scOrder qs rs.length) (missF (at0 lo) (at0 isl) rs.length) hm0 (fun i hi' => ⟨hsz i ((scOrder_mem _ _ _).1 hi'), hbox i ((scOrder_mem _ _ _).1 hi')⟩)
    have z2 := fillSum_rsz (atQ qs) (at0 lo) (at0 hi) (at0 isl) 1000 (scOrder qs rs.length).reverse (missF (at0 lo) (at0 isl) rs.length) hm0 (fun i hi' => ⟨hsz i ((scOrder_mem _ _ _).1 (List.mem_reverse.1 hi')), hbox i ((scOrder_mem _ _ _).1 (List.mem_reverse.1 hi'))⟩)
    rw [(scOrder_perm qs rs.length).length_eq, List.length_range] at z1
    rw [hp.length_eq, List.length_range] at z2
    have hlim := Nat.mul_le_mul_right 1006 hn
    have b1 := fill_best (fun i => -(atQ qs i)) (at0 lo) (at0 hi) (at0 isl) rs.length (scOrder qs rs.length) (scOrder_perm qs _) ((scOrder_sorted qs _).imp (fun h => by grind)) (fun i hi' => (hbox i hi').2.1) hg
    have b2 := fill_best (atQ qs) (at0 lo) (at0 hi) (at0 isl) rs.length (scOrder qs rs.length).reverse hp (List.pairwise_reverse.2 (scOrder_sorted qs _)) (fun i hi' => (hbox i hi').2.1) hg
    rw [fillSum_neg] at b1
    refine ⟨hx, r1, r2, true, _, _, rfl, h1.isRat.mono (by omega), h2.isRat.mono (by omega), h1.short (by omega), h2.short (by omega), Or.inl ⟨rfl, ?_, by rw [hql]; exact b1, by rw [hql]; exact b2⟩⟩
    refine ⟨by omega, by omega, by omega, by omega, fun i hi' => ?_, fun k hk => ?_⟩
    · have := hbox i (by omega); omega
    · rw [hql] at hk ⊢
      exact ⟨fun i hi' _ => (hbox i hi').2.1, hg k hk⟩
  · have hg' : ∃ k, keyP (at0 isl) rs.length k ∧ ¬ (0 ≤ missF (at0 lo) (at0 isl) rs.length k ∧ missF (at0 lo) (at0 isl) rs.length k ≤ roomF (at0 lo) (at0 hi) (at0 isl) rs.length k) := by
      apply Classical.byContradiction
      intro h
      exact hg (fun k hk => Classical.byContradiction fun h' => h ⟨k, hk, h'⟩)
    obtain ⟨k, hk, hno⟩ := hg'
    refine (sc_extreme_bad w ta la ha ia tc lc hc ic L rs.length rs qs lo hi isl hR hlo hhi hil rfl n2 n3 n4 hn hL hbox ⟨k, hk, hno⟩).mono fun e w' h => exNo_ans h ?_
    rintro ⟨_, _, _, _, _, g6⟩
    rw [hql] at g6
    exact hno (g6 k hk).2

theorem r30_all (w : World) (ta la ha ia : Option Addr) (tc lc hc ic L : Nat) (rs : List RVal) (qs : List Rat) (lo hi isl : List Int)
    (hR : Rats w ta tc rs qs L) (hS : RShort rs 1000) (hlo : IntIn w la lc lo) (hhi : IntIn w ha hc hi) (hil : IntIn w ia ic isl) (hL : L ≤ 1000) (l0 : rs.length ≤ 100000) (l1 : lo.length ≤ 100000) (l2 : hi.length ≤ 100000) (l3 : isl.length ≤ 100000) :
    Calls Tryz.prog 26 #[.slice ta rs.length tc, .slice la lo.length lc, .slice ha hi.length hc, .slice ia isl.length ic] w fun e w' => ExAns w qs lo hi isl e w' := by
  have hql := hR.len
  by_cases hlen : rs.length ≤ 32 ∧ lo.length = rs.length ∧ hi.length = rs.length ∧ isl.length = rs.length
  rotate_left
  · exact (r30_extreme_len w ta la ha ia tc lc hc ic _ _ _ _ ⟨l0, l1, l2, l3⟩ (by omega)).mono fun e w' h => exNo_ans h (by rintro ⟨h1, h2, h3, h4, _⟩; omega)
  obtain ⟨hn, n2, n3, n4⟩ := hlen
  rw [n2, n3, n4]
  by_cases hbox : ∀ i, i < rs.length → (-1073741824 ≤ at0 lo i ∧ at0 lo i ≤ 1073741824) ∧ -1073741824 ≤ at0 hi i ∧ at0 hi i ≤ 1073741824
  rotate_left
  · obtain ⟨i0, h1, h2, h3⟩ := first_no _ _ hbox
    refine (r30_extreme_bnd w ta la ha ia tc lc hc ic L rs.length rs qs lo hi isl hR hS hlo hhi hil rfl n2 n3 n4 hn hL i0 h1 h3 h2).mono fun e w' h => exNo_ans h ?_
    rintro ⟨_, _, _, _, g5, g6⟩
    exact h2 (g5 i0 (by omega))
  refine (r30_extreme w ta la ha ia tc lc hc ic L rs.length rs qs lo hi isl hR hS hlo hhi hil rfl n2 n3 n4 hn hL hbox).mono ?_
  rintro e w' ⟨hx, r1, r2, b, p, q, rfl, h1, h2, s1, s2, hc⟩
  refine ⟨hx, r1, r2, b, p, q, rfl, h1, h2, s1, s2, ?_⟩
  rcases hc with ⟨rfl, c1, c2, c3⟩ | ⟨rfl, rfl, rfl, c4⟩
  · exact Or.inl ⟨rfl, ⟨by omega, by omega, by omega, by omega, by rw [hql]; exact hbox, by rw [hql]; exact c1⟩, by rw [hql]; exact c2, by rw [hql]; exact c3⟩
  · exact Or.inr ⟨rfl, (by rintro ⟨_, _, _, _, _, g6⟩; rw [hql] at g6; exact c4 g6), rfl, rfl⟩

end Go.Proofs.YtgihpfkjpfanmaaGreat


namespace Go.Proofs.YtgihpfkjpfanmaaGreat
open Go.RowKit

/-- The lists of ScreenExtremes as they are made. -/
structure NrAt (w : World) (U1 U2 U3 n : Nat) (aL aH aI : Option Addr) (cL cH cI : Nat) (LO HI IS : Nat → Int) (wr : World) : Prop where
  ext : Ext w wr
  lo : MyInts wr w.heap.size U1 aL cL ((List.range n).map LO)
  hi : MyInts wr U1 U2 aH cH ((List.range n).map HI)
  isl : MyInts wr U2 U3 aI cI ((List.range n).map IS)
section
variable {w : World} {U1 U2 U3 n : Nat} {aL aH aI : Option Addr} {cL cH cI : Nat} {LO HI IS : Nat → Int} {wr : World}
theorem NrAt.ext' {wr' : World} (h : NrAt w U1 U2 U3 n aL aH aI cL cH cI LO HI IS wr) (e : Ext wr wr') : NrAt w U1 U2 U3 n aL aH aI cL cH cI LO HI IS wr' :=
  ⟨h.ext.trans e, h.lo.ext e, h.hi.ext e, h.isl.ext e⟩
theorem NrAt.setL {gl : Nat} (h : NrAt w U1 U2 U3 n (some ⟨gl, 0, none⟩) aH aI cL cH cI LO HI IS wr) (h1 : w.heap.size ≤ gl) (h2 : gl < U1) (hU : U1 ≤ U2) (i : Nat) (hi : i < n) (x : Int) (L' : Nat → Int) (hx : L' i = x) (hL : ∀ j, j < n → j ≠ i → L' j = LO j) :
    NrAt w U1 U2 U3 n (some ⟨gl, 0, none⟩) aH aI cL cH cI L' HI IS (wr.setCell ⟨gl, i, none⟩ (.int .i64 x)) := by
  refine ⟨h.ext.setCell (by simp only; omega) _, ?_, h.hi.other _ _ (Or.inl (by simp only; omega)), h.isl.other _ _ (Or.inl (by simp only; omega))⟩
  have h5 := h.lo.set i x
  rw [map_range_set n i LO L' x hi hx hL] at h5
  exact h5
theorem NrAt.setH {gh : Nat} (h : NrAt w U1 U2 U3 n aL (some ⟨gh, 0, none⟩) aI cL cH cI LO HI IS wr) (h0 : w.heap.size ≤ U1) (h1 : U1 ≤ gh) (h2 : gh < U2) (i : Nat) (hi : i < n) (x : Int) (H' : Nat → Int) (hx : H' i = x) (hH : ∀ j, j < n → j ≠ i → H' j = HI j) :
    NrAt w U1 U2 U3 n aL (some ⟨gh, 0, none⟩) aI cL cH cI LO H' IS (wr.setCell ⟨gh, i, none⟩ (.int .i64 x)) := by
  refine ⟨h.ext.setCell (by simp only; omega) _, h.lo.other _ _ (Or.inr (by simp only; omega)), ?_, h.isl.other _ _ (Or.inl (by simp only; omega))⟩
  have h5 := h.hi.set i x
  rw [map_range_set n i HI H' x hi hx hH] at h5
  exact h5
theorem NrAt.cells {gl gh : Nat} (h : NrAt w U1 U2 U3 n (some ⟨gl, 0, none⟩) (some ⟨gh, 0, none⟩) aI cL cH cI LO HI IS wr) (i : Nat) (hi : i < n) :
    wr.cell? ⟨gl, i, none⟩ = some (.int .i64 (LO i)) ∧ wr.frozen? ⟨gl, i, none⟩ = false ∧ wr.cell? ⟨gh, i, none⟩ = some (.int .i64 (HI i)) ∧ wr.frozen? ⟨gh, i, none⟩ = false := by
  obtain ⟨h2, h3⟩ := h.lo.get i (by simpa using hi)
  obtain ⟨h4, h5⟩ := h.hi.get i (by simpa using hi)
  rw [List.getElem_map, List.getElem_range] at h2 h4
  exact ⟨h2, h3, h4, h5⟩
end

set_option maxHeartbeats 4000000 in
set_option maxRecDepth 100000 in
theorem law30_extremes (w : World) (ta la ha ia : Option Addr) (tc lc hc ic : Nat) (rs : List RVal) (lo hi isl : List Int) (near : Bool) (hT : RatsIn w ta tc rs) (hr : IsRaw rs) (hlo : IntIn w la lc lo) (hhi : IntIn w ha hc hi) (hil : IntIn w ia ic isl)
    (l1 : lo.length ≤ 40) (l2 : hi.length ≤ 40) (l3 : isl.length ≤ 40) :
    Calls Tryz.prog 5 #[.slice ta rs.length tc, .slice la lo.length lc, .slice ha hi.length hc, .slice ia isl.length ic, .bool near] w fun e w' => e = .returned (.bool true) ∧ Ext w w' := by
  obtain ⟨qs, hR, hS⟩ := hT.rats hr
  have hn := hr.1
  have HRaw := Lib.hid (stage_Raw_yes w ta tc rs hT hr)
  have d1 : decide ((40 : Int) < (lo.length : Int)) = false := by simp; omega
  have d2 : decide ((40 : Int) < (hi.length : Int)) = false := by simp; omega
  have d3 : decide ((40 : Int) < (isl.length : Int)) = false := by simp; omega
  have hsh : RShort rs 1000 := fun k hk => by have := hr.2 k hk; omega
  have hRle := hR.le; have hRcap := hR.cap
  have q1 := hlo.le; have q2 := hlo.cap; have q3 := hhi.le; have q4 := hhi.cap; have q5 := hil.le; have q6 := hil.cap
  have HR := Lib.hid hR; have HSH := Lib.hid hsh; have HLO := Lib.hid hlo; have HHI := Lib.hid hhi; have HIL := Lib.hid hil
  clear hR hS hlo hhi hil hT hr hsh
  cases near with
  | false =>
    go_enter Tryz.func5, Tryz.ntmps5
    go_wp2_with fail
    refine HRaw.out.mono ?_
    rintro e w' ⟨rfl, rfl⟩
    clear HRaw
    go_wp2_with fail
    refine (sc_all w ta la ha ia tc lc hc ic 4 rs qs lo hi isl HR.out HLO.out HHI.out HIL.out (by omega) (by omega) (by omega) (by omega) (by omega)).mono ?_
    rintro e w2 ⟨x2, r1, r2, b, p, q, rfl, h1, h2, s1, s2, hA⟩
    have HA := Lib.hid hA; have H1 := Lib.hid h1; have H2 := Lib.hid h2; have X2 := Lib.hid x2
    clear hA h1 h2 x2
    go_upto_region 11 with fail
    obtain ⟨W3, hW3, x3, Z3, A3, A3'⟩ := boxes2 w2 55 r1.cells 55 r2.cells
    rw [show (w2.alloc (.cells #[.bool r1.s, .slice r1.a r1.k r1.c, .slice r1.b r1.j r1.d] 55)).alloc (.cells #[.bool r2.s, .slice r2.a r2.k r2.c, .slice r2.b r2.j r2.d] 55) = W3 from hW3.symm]
    clear hW3
    have HA3 := Lib.hid A3; have HA3' := Lib.hid A3'; have X3 := Lib.hid x3
    clear A3 A3' Z3 x3
    go_wp2_with fail
    refine (r30_all W3 ta la ha ia tc lc hc ic 4 rs qs lo hi isl (HR.out.ext (X2.out.trans X3.out)) HSH.out (HLO.out.ext (X2.out.trans X3.out)) (HHI.out.ext (X2.out.trans X3.out)) (HIL.out.ext (X2.out.trans X3.out)) (by omega) (by omega) (by omega) (by omega) (by omega)).mono ?_
    rintro e w4 ⟨x4, r3, r4, b', p', q', rfl, h3, h4, s3, s4, hA'⟩
    obtain ⟨hbb, rfl, rfl⟩ := HA.out.unique hA'
    have hbq : (b == b') = true := by rw [hbb]; exact beq_self_eq_true b'
    have H3 := Lib.hid h3; have H4 := Lib.hid h4; have X4 := Lib.hid x4
    clear hA' h3 h4 x4 hbb
    go_upto_region 12 with fail
    obtain ⟨W5, hW5, x5, Z5, A5, A5'⟩ := boxes2 w4 55 r3.cells 55 r4.cells
    rw [show (w4.alloc (.cells #[.bool r3.s, .slice r3.a r3.k r3.c, .slice r3.b r3.j r3.d] 55)).alloc (.cells #[.bool r4.s, .slice r4.a r4.k r4.c, .slice r4.b r4.j r4.d] 55) = W5 from hW5.symm]
    clear hW5
    have HA5 := Lib.hid A5; have HA5' := Lib.hid A5'; have X5 := Lib.hid x5
    clear A5 A5' Z5 x5
    go_wp2_with fail
    refine (law30_awake _).mono ?_
    rintro e w6 ⟨rfl, x6⟩
    have y6 : Ext w2 w6 := X3.out.trans (X4.out.trans (X5.out.trans x6))
    obtain ⟨a0, a1, a2, -, -, -⟩ := box3 HA3.out (X4.out.trans (X5.out.trans x6))
    obtain ⟨b0, b1, b2, -, -, -⟩ := box3 HA5.out x6
    have hcp : cmpQ p p = 0 := cmpQ_eq.2 rfl
    have hcq : cmpQ q q = 0 := cmpQ_eq.2 rfl
    go_wp2_with fail
    refine (r3_CmpI w6 r1 p _ (H1.out.ext y6) (by omega) (by omega) r3 p _ (H3.out.ext (X5.out.trans x6)) (by omega) (by omega)).mono ?_
    rw [hcp]
    rintro e w7 ⟨rfl, x7⟩
    clear a0 a1 a2 b0 b1 b2 hcp
    obtain ⟨a0, a1, a2, -, -, -⟩ := box3 HA3'.out ((X4.out.trans (X5.out.trans x6)).trans x7)
    obtain ⟨b0, b1, b2, -, -, -⟩ := box3 HA5'.out (x6.trans x7)
    go_wp2_with fail
    refine (r3_CmpI w7 r2 q _ (H2.out.ext (y6.trans x7)) (by omega) (by omega) r4 q _ (H4.out.ext (X5.out.trans (x6.trans x7))) (by omega) (by omega)).mono ?_
    rw [hcq]
    rintro e w8 ⟨rfl, x8⟩
    clear a0 a1 a2 b0 b1 b2 hcq
    go_wp2_with fail
    go_ret
    exact ⟨rfl, (Ext.refl w).trans (X2.out.trans ((y6.trans x7).trans x8))⟩
  | true =>
    obtain ⟨n, hnn⟩ : ∃ n, n = rs.length := ⟨_, rfl⟩
    have HNN := Lib.hid hnn
    rw [← hnn] at HRaw hRle hn ⊢
    clear hnn
    go_enter Tryz.func5, Tryz.ntmps5
    go_wp2_with fail
    refine HRaw.out.mono ?_
    rintro e w' ⟨rfl, rfl⟩
    clear HRaw
    go_wp2_with fail
    refine (sc_fit w ta la n tc lc lo 20 HLO.out (by omega) (by omega) (by omega) (by omega)).mono ?_
    rintro e w1 ⟨aL, cL, rfl, hA1, x1⟩
    go_wp2_with fail
    refine (sc_fit w1 ta ha n tc hc hi 20 (HHI.out.ext x1) (by omega) (by omega) (by omega) (by omega)).mono ?_
    rintro e w2 ⟨aH, cH, rfl, hA2, x2⟩
    go_wp2_with fail
    refine (sc_fit w2 ta ia n tc ic isl 3 (HIL.out.ext (x1.trans x2)) (by omega) (by omega) (by omega) (by omega)).mono ?_
    rintro e w3 ⟨aI, cI, rfl, hA3, x3⟩
    have hFL := fun i => fitV_range lo 20 (by omega) i
    have hFH := fun i => fitV_range hi 20 (by omega) i
    have hFI := fun i => fitV_range isl 3 (by omega) i
    have SI0 : NrAt w w1.heap.size w2.heap.size w3.heap.size n aL aH aI cL cH cI (fitV lo 20) (fitV hi 20) (fitV isl 3) w3 := ⟨(x1.trans x2).trans x3, hA1.ext (x2.trans x3), hA2.ext x3, hA3⟩
    obtain ⟨FL, hFLe⟩ : ∃ FL, FL = fitV lo 20 := ⟨_, rfl⟩
    obtain ⟨FH, hFHe⟩ : ∃ FH, FH = fitV hi 20 := ⟨_, rfl⟩
    obtain ⟨FI, hFIe⟩ : ∃ FI, FI = fitV isl 3 := ⟨_, rfl⟩
    rw [← hFLe] at SI0 hFL
    rw [← hFHe] at SI0 hFH
    rw [← hFIe] at SI0 hFI
    have e1 : (fun j => if j < 0 then FL j - 10 else FL j) = FL := by funext j; simp
    have e2 : (fun j => if j < 0 then FH j + (FL j - 10) else FH j) = FH := by funext j; simp
    obtain ⟨U1, hU1⟩ : ∃ U, U = w1.heap.size := ⟨_, rfl⟩
    obtain ⟨U2, hU2⟩ : ∃ U, U = w2.heap.size := ⟨_, rfl⟩
    obtain ⟨U3, hU3⟩ : ∃ U, U = w3.heap.size := ⟨_, rfl⟩
    have o1 := x1.size; have o2 := x2.size; have o3 := x3.size
    rw [← hU1, ← hU2, ← hU3] at SI0
    rw [← hU1] at o1 o2
    rw [← hU2] at o2 o3
    rw [← hU3] at o3
    rw [← e1, ← e2] at SI0
    have HSI := Lib.hid SI0; have HFL := Lib.hid hFL; have HFH := Lib.hid hFH; have HFI := Lib.hid hFI
    clear SI0 hFL hFH hFI hFLe hFHe hFIe e1 e2 hU1 hU2 hU3 hA1 hA2 hA3 x1 x2 x3
    go_wp2_with fail
    go_loopw [11] (fun ii wr => ∃ i : Nat, i ≤ n ∧ NrAt w U1 U2 U3 n aL aH aI cL cH cI (fun j => if j < i then FL j - 10 else FL j) (fun j => if j < i then FH j + (FL j - 10) else FH j) FI wr ∧ ii = .int .i64 i) (fun ii _ => n - (intOf ii).toNat)
    case atStart => exact ⟨0, Nat.zero_le _, HSI.out, rfl⟩
    case round =>
      obtain ⟨i, hi0, hAt, rfl⟩ := hrel
      clear HSI
      by_cases hlt : i < n
      · obtain ⟨gl, rfl, g1, g2⟩ := hAt.lo.at (by simp; omega)
        obtain ⟨gh, rfl, g3, g4⟩ := hAt.hi.at (by simp; omega)
        obtain ⟨c0, f0, c1, f1⟩ := hAt.cells i hlt
        rw [if_neg (Nat.lt_irrefl i)] at c0 c1
        have hl := HFL.out i
        have hh := HFH.out i
        have hA1 := hAt.setL g1 g2 o2 i hlt (FL i - 10) (fun j => if j < i + 1 then FL j - 10 else FL j) (by simp) (fun j hj hne => by
          by_cases hji : j < i
          · simp only [if_pos hji, if_pos (show j < i + 1 by omega)]
          · simp only [if_neg hji, if_neg (show ¬ j < i + 1 by omega)])
        have hA2 := hA1.setH o1 g3 g4 i hlt (FH i + (FL i - 10)) (fun j => if j < i + 1 then FH j + (FL j - 10) else FH j) (by simp) (fun j hj hne => by
          by_cases hji : j < i
          · simp only [if_pos hji, if_pos (show j < i + 1 by omega)]
          · simp only [if_neg hji, if_neg (show ¬ j < i + 1 by omega)])
        obtain ⟨c2, f2, c3, f3⟩ := hA1.cells i hlt
        rw [if_pos (Nat.lt_succ_self i)] at c2
        rw [if_neg (Nat.lt_irrefl i)] at c3
        have hA2' := hA2.ext' (Ext.refl _).drew
        have c4 := (hA2'.cells i hlt).1
        rw [if_pos (Nat.lt_succ_self i)] at c4
        have HA2 := Lib.hid hA2'
        generalize FL i = l at *
        generalize FH i = h at *
        have hw1 : IntKind.i64.wrap (l - 10) = l - 10 := by rw [IntKind.wrap_i64]; omega
        have hw2 : IntKind.i64.wrap (h + (l - 10)) = h + (l - 10) := by rw [IntKind.wrap_i64]; omega
        have bi0 : (0 : Int) ≤ (i : Int) := by omega
        have bi1 : (i : Int) < (n : Int) := by omega
        have HC2 := Lib.hid c2; have HF2 := Lib.hid f2; have HC3 := Lib.hid c3; have HF3 := Lib.hid f3; have HC4 := Lib.hid c4
        clear hAt hA1 hA2 hA2' c1 f1 c2 f2 c3 f3 c4
        go_wp2_with fail
        clear c0 f0
        refine wp_region_Y (fun w' => w'.cell? ⟨gl, i, none⟩ = some (.int .i64 (l - 10))) (fun w' => w'.cell? ⟨gh, i, none⟩ = some (.int .i64 h) ∧ w'.frozen? ⟨gh, i, none⟩ = false) (fun i => i == 10) (by kernel_rfl) (HC2.out) (⟨HC3.out, HF3.out⟩) (fun hHeld hFirst => ?_)
        refine wpAnyY_take (i := 0) (v := .slice (some ⟨gh, 0, none⟩) n cH) rfl (by kernel_rfl) (by kernel_rfl) (by kernel_rfl) (by kernel_rfl) (fun _ _ _ h => h) (Or.inl ⟨by rfl, fun w hSw => by (have e0 := hSw; go_simp)⟩) hHeld (Or.inl hFirst) ?_
        try simp only [List.getElem_toArray, List.getElem_cons_zero, Act.put, List.setIfInBounds_toArray, List.set_cons_zero, List.set_cons_succ]
        refine wpAnyY_take (i := 1) (v := .int .i64 (i : Int)) rfl (by kernel_rfl) (by kernel_rfl) (by kernel_rfl) (by kernel_rfl) (fun _ _ _ h => h) (Or.inl ⟨by rfl, fun w hSw => by (have e0 := hSw; go_simp)⟩) hHeld (Or.inl hFirst) ?_
        try simp only [List.getElem_toArray, List.getElem_cons_succ, List.getElem_cons_zero, Act.put, List.setIfInBounds_toArray, List.set_cons_zero, List.set_cons_succ]
        refine wpAnyY_take (i := 2) (v := .pointer (some ⟨gh, i, none⟩)) rfl (by kernel_rfl) (by kernel_rfl) (by kernel_rfl) (by kernel_rfl) (fun _ _ _ h => h) (Or.inl ⟨by rfl, fun w hSw => by (have e0 := hSw; go_simp)⟩) hHeld (Or.inl hFirst) ?_
        try simp only [List.getElem_toArray, List.getElem_cons_succ, List.getElem_cons_zero, Act.put, List.setIfInBounds_toArray, List.set_cons_zero, List.set_cons_succ]
        refine wpAnyY_takeR (i := 3) (v := .int .i64 h) rfl (by kernel_rfl) (by kernel_rfl) (by kernel_rfl) (by kernel_rfl) (by kernel_rfl) (by kernel_rfl) (fun _ _ _ h => h) (Or.inl ⟨by rfl, fun w hSw => by (obtain ⟨hSw, hSr⟩ := hSw; have e0 := hSw; obtain ⟨d0, d1⟩ := hSr; go_simp)⟩) hHeld hFirst ?_
        try simp only [List.getElem_toArray, List.getElem_cons_succ, List.getElem_cons_zero, Act.put, List.setIfInBounds_toArray, List.set_cons_zero, List.set_cons_succ]
        refine wpAnyY_take (i := 4) (v := .slice (some ⟨gl, 0, none⟩) n cL) rfl (by kernel_rfl) (by kernel_rfl) (by kernel_rfl) (by kernel_rfl) (fun _ _ _ h => h) (Or.inl ⟨by rfl, fun w hSw => by (have e0 := hSw; go_simp)⟩) hHeld (Or.inl hFirst) ?_
        try simp only [List.getElem_toArray, List.getElem_cons_succ, List.getElem_cons_zero, Act.put, List.setIfInBounds_toArray, List.set_cons_zero, List.set_cons_succ]
        refine wpAnyY_take (i := 5) (v := .int .i64 (i : Int)) rfl (by kernel_rfl) (by kernel_rfl) (by kernel_rfl) (by kernel_rfl) (fun _ _ _ h => h) (Or.inl ⟨by rfl, fun w hSw => by (have e0 := hSw; go_simp)⟩) hHeld (Or.inl hFirst) ?_
        try simp only [List.getElem_toArray, List.getElem_cons_succ, List.getElem_cons_zero, Act.put, List.setIfInBounds_toArray, List.set_cons_zero, List.set_cons_succ]
        refine wpAnyY_take (i := 6) (v := .pointer (some ⟨gl, i, none⟩)) rfl (by kernel_rfl) (by kernel_rfl) (by kernel_rfl) (by kernel_rfl) (fun _ _ _ h => h) (Or.inl ⟨by rfl, fun w hSw => by (have e0 := hSw; go_simp)⟩) hHeld (Or.inl hFirst) ?_
        try simp only [List.getElem_toArray, List.getElem_cons_succ, List.getElem_cons_zero, Act.put, List.setIfInBounds_toArray, List.set_cons_zero, List.set_cons_succ]
        refine wpAnyY_take (i := 7) (v := .int .i64 (l - 10)) rfl (by kernel_rfl) (by kernel_rfl) (by kernel_rfl) (by kernel_rfl) (fun _ _ _ h => h) (Or.inl ⟨by rfl, fun w hSw => by (have e0 := hSw; go_simp)⟩) hHeld (Or.inl hFirst) ?_
        try simp only [List.getElem_toArray, List.getElem_cons_succ, List.getElem_cons_zero, Act.put, List.setIfInBounds_toArray, List.set_cons_zero, List.set_cons_succ]
        refine wpAnyY_take (i := 8) (v := .int .i64 (h + (l - 10))) rfl (by kernel_rfl) (by kernel_rfl) (by kernel_rfl) (by kernel_rfl) (fun _ _ _ h => h) (Or.inl ⟨by rfl, fun w hSw => by (have e0 := hSw; go_simp)⟩) hHeld (Or.inl hFirst) ?_
        try simp only [List.getElem_toArray, List.getElem_cons_succ, List.getElem_cons_zero, Act.put, List.setIfInBounds_toArray, List.set_cons_zero, List.set_cons_succ]
        refine wpAnyY_take (i := 9) (v := .pointer (some ⟨gh, i, none⟩)) rfl (by kernel_rfl) (by kernel_rfl) (by kernel_rfl) (by kernel_rfl) (fun _ _ _ h => h) (Or.inl ⟨by rfl, fun w hSw => by (have e0 := hSw; go_simp)⟩) hHeld (Or.inl hFirst) ?_
        try simp only [List.getElem_toArray, List.getElem_cons_succ, List.getElem_cons_zero, Act.put, List.setIfInBounds_toArray, List.set_cons_zero, List.set_cons_succ]
        have c3 := HC3.out; have f3 := HF3.out
        refine wpAnyY_ready (rs := [10]) (by kernel_rfl) (by simp) ?_
        refine AllReadyY.late rfl (by kernel_rfl) (fun Kc hK => ?_) AllReadyY.nil
        go_simp
        refine hK.out _ _ (HC4.out) (fun hHeld => ?_)
        clear hK Kc
        try simp only [List.getElem_toArray, List.getElem_cons_succ, List.getElem_cons_zero, Act.put]
        refine wpAnyY_done (by kernel_rfl) ?_ _
        clear hHeld c3 f3
        go_wp2_with fail
        exact ⟨⟨i + 1, by omega, HA2.out, by go_num⟩, by simp only [intOf]; omega⟩
      · obtain rfl : n = i := by omega
        have hE := hAt.ext
        have hbL : ∀ j, -1000 ≤ (if j < n then FL j - 10 else FL j) ∧ (if j < n then FL j - 10 else FL j) ≤ 1000 := fun j => by have := HFL.out j; split <;> omega
        have hbH : ∀ j, -1000 ≤ (if j < n then FH j + (FL j - 10) else FH j) ∧ (if j < n then FH j + (FL j - 10) else FH j) ≤ 1000 := fun j => by have := HFL.out j; have := HFH.out j; split <;> omega
        have hL := hAt.lo.intIn (fun j hj => by rw [List.getElem_map]; have := hbL ((List.range n)[j]'(by simpa using hj)); omega)
        have hH := hAt.hi.intIn (fun j hj => by rw [List.getElem_map]; have := hbH ((List.range n)[j]'(by simpa using hj)); omega)
        have hI := hAt.isl.intIn (fun j hj => by rw [List.getElem_map]; have := HFI.out ((List.range n)[j]'(by simpa using hj)); omega)
        have lL : ((List.range n).map (fun j => if j < n then FL j - 10 else FL j)).length = n := by simp
        have lH : ((List.range n).map (fun j => if j < n then FH j + (FL j - 10) else FH j)).length = n := by simp
        have lI : ((List.range n).map FI).length = n := by simp
        generalize (List.range n).map (fun j => if j < n then FL j - 10 else FL j) = LL at *
        generalize (List.range n).map (fun j => if j < n then FH j + (FL j - 10) else FH j) = HH at *
        generalize (List.range n).map FI = II at *
        have HL := Lib.hid hL; have HH0 := Lib.hid hH; have HI0 := Lib.hid hI; have HE := Lib.hid hE
        have k1 := hL.le; have k2 := hL.cap; have k3 := hH.le; have k4 := hH.cap; have k5 := hI.le; have k6 := hI.cap
        have hSA : ∀ V, Ext wr V → Calls Tryz.prog 25 #[.slice ta n tc, .slice aL n cL, .slice aH n cH, .slice aI n cI] V fun e w' => ExAns V qs LL HH II e w' := fun V hV => by
          have h5 := sc_all V ta aL aH aI tc cL cH cI 4 rs qs LL HH II (HR.out.ext (hE.trans hV)) (hL.ext hV) (hH.ext hV) (hI.ext hV) (by omega) (by rw [← HNN.out]; omega) (by omega) (by omega) (by omega)
          rw [← HNN.out, lL, lH, lI] at h5
          exact h5
        have hRA : ∀ V, Ext wr V → Calls Tryz.prog 26 #[.slice ta n tc, .slice aL n cL, .slice aH n cH, .slice aI n cI] V fun e w' => ExAns V qs LL HH II e w' := fun V hV => by
          have h5 := r30_all V ta aL aH aI tc cL cH cI 4 rs qs LL HH II (HR.out.ext (hE.trans hV)) HSH.out (hL.ext hV) (hH.ext hV) (hI.ext hV) (by omega) (by rw [← HNN.out]; omega) (by omega) (by omega) (by omega)
          rw [← HNN.out, lL, lH, lI] at h5
          exact h5
        have HSA := Lib.hid hSA; have HRA := Lib.hid hRA
        clear hAt hL hH hI hE hbL hbH hSA hRA lL lH lI
        go_wp2_with fail
        refine (HSA.out wr (Ext.refl _)).mono ?_
        rintro e w2 ⟨x2, r1, r2, b, p, q, rfl, h1, h2, s1, s2, hA⟩
        have HA := Lib.hid hA; have H1 := Lib.hid h1; have H2 := Lib.hid h2; have X2 := Lib.hid x2
        clear hA h1 h2 x2
        go_upto_region 11 with fail
        obtain ⟨W3, hW3, x3, Z3, A3, A3'⟩ := boxes2 w2 55 r1.cells 55 r2.cells
        rw [show (w2.alloc (.cells #[.bool r1.s, .slice r1.a r1.k r1.c, .slice r1.b r1.j r1.d] 55)).alloc (.cells #[.bool r2.s, .slice r2.a r2.k r2.c, .slice r2.b r2.j r2.d] 55) = W3 from hW3.symm]
        clear hW3
        have HA3 := Lib.hid A3; have HA3' := Lib.hid A3'; have X3 := Lib.hid x3
        clear A3 A3' Z3 x3
        go_wp2_with fail
        refine (HRA.out W3 (X2.out.trans X3.out)).mono ?_
        rintro e w4 ⟨x4, r3, r4, b', p', q', rfl, h3, h4, s3, s4, hA'⟩
        obtain ⟨hbb, rfl, rfl⟩ := HA.out.unique hA'
        have hbq : (b == b') = true := by rw [hbb]; exact beq_self_eq_true b'
        have H3 := Lib.hid h3; have H4 := Lib.hid h4; have X4 := Lib.hid x4
        clear hA' h3 h4 x4 hbb
        go_upto_region 12 with fail
        obtain ⟨W5, hW5, x5, Z5, A5, A5'⟩ := boxes2 w4 55 r3.cells 55 r4.cells
        rw [show (w4.alloc (.cells #[.bool r3.s, .slice r3.a r3.k r3.c, .slice r3.b r3.j r3.d] 55)).alloc (.cells #[.bool r4.s, .slice r4.a r4.k r4.c, .slice r4.b r4.j r4.d] 55) = W5 from hW5.symm]
        clear hW5
        have HA5 := Lib.hid A5; have HA5' := Lib.hid A5'; have X5 := Lib.hid x5
        clear A5 A5' Z5 x5
        go_wp2_with fail
        refine (law30_awake _).mono ?_
        rintro e w6 ⟨rfl, x6⟩
        have y6 : Ext w2 w6 := X3.out.trans (X4.out.trans (X5.out.trans x6))
        obtain ⟨a0, a1, a2, -, -, -⟩ := box3 HA3.out (X4.out.trans (X5.out.trans x6))
        obtain ⟨b0, b1, b2, -, -, -⟩ := box3 HA5.out x6
        have hcp : cmpQ p p = 0 := cmpQ_eq.2 rfl
        have hcq : cmpQ q q = 0 := cmpQ_eq.2 rfl
        go_wp2_with fail
        refine (r3_CmpI w6 r1 p _ (H1.out.ext y6) (by omega) (by omega) r3 p _ (H3.out.ext (X5.out.trans x6)) (by omega) (by omega)).mono ?_
        rw [hcp]
        rintro e w7 ⟨rfl, x7⟩
        clear a0 a1 a2 b0 b1 b2 hcp
        obtain ⟨a0, a1, a2, -, -, -⟩ := box3 HA3'.out ((X4.out.trans (X5.out.trans x6)).trans x7)
        obtain ⟨b0, b1, b2, -, -, -⟩ := box3 HA5'.out (x6.trans x7)
        go_wp2_with fail
        refine (r3_CmpI w7 r2 q _ (H2.out.ext (y6.trans x7)) (by omega) (by omega) r4 q _ (H4.out.ext (X5.out.trans (x6.trans x7))) (by omega) (by omega)).mono ?_
        rw [hcq]
        rintro e w8 ⟨rfl, x8⟩
        clear a0 a1 a2 b0 b1 b2 hcq
        go_wp2_with fail
        go_ret
        exact ⟨rfl, HE.out.trans (X2.out.trans ((y6.trans x7).trans x8))⟩
  
end Go.Proofs.YtgihpfkjpfanmaaGreat


namespace Go.Proofs.YtgihpfkjpfanmaaGreat
open Go.RowKit

set_option maxRecDepth 100000 in
theorem law30_ScreenExtremes (w : World) (ta : Option Addr) (tc : Nat) (rs : List RVal) (la : Option Addr) (lc : Nat) (lo : List Int) (ha : Option Addr) (hc : Nat) (hi : List Int) (ia : Option Addr) (ic : Nat) (isl : List Int) (near : Bool)
    (hT : RatsIn w ta tc rs) (hl : IntIn w la lc lo) (hh : IntIn w ha hc hi) (hi' : IntIn w ia ic isl) :
    Calls Tryz.prog 5 #[.slice ta rs.length tc, .slice la lo.length lc, .slice ha hi.length hc, .slice ia isl.length ic, .bool near] w fun e w' => e = .returned (.bool true) ∧ Ext w w' := by
  have q1 := hl.le; have q2 := hl.cap; have q3 := hh.le; have q4 := hh.cap; have q5 := hi'.le; have q6 := hi'.cap
  by_cases hr : IsRaw rs
  · by_cases hb : lo.length ≤ 40 ∧ hi.length ≤ 40 ∧ isl.length ≤ 40
    · exact law30_extremes w ta la ha ia tc lc hc ic rs lo hi isl near hT hr hl hh hi' hb.1 hb.2.1 hb.2.2
    · have HRaw := Lib.hid (stage_Raw_yes w ta tc rs hT hr)
      have hz : decide ((40 : Int) < (lo.length : Int)) = true ∨ (decide ((40 : Int) < (lo.length : Int)) = false ∧ decide ((40 : Int) < (hi.length : Int)) = true) ∨ (decide ((40 : Int) < (lo.length : Int)) = false ∧ decide ((40 : Int) < (hi.length : Int)) = false ∧ decide ((40 : Int) < (isl.length : Int)) = true) := by
        simp only [decide_eq_true_eq, decide_eq_false_iff_not]
        omega
      clear hb hr hT hl hh hi'
      rcases hz with d1 | ⟨d1, d2⟩ | ⟨d1, d2, d3⟩
      all_goals
        go_enter Tryz.func5, Tryz.ntmps5
        go_wp2_with fail
        refine HRaw.out.mono ?_
        rintro e w' ⟨rfl, rfl⟩
        go_wp2_with fail
        go_ret
        exact ⟨rfl, Ext.refl _⟩
  · have HRaw := Lib.hid (stage_Raw_no w ta tc rs hT hr)
    clear hr
    go_enter Tryz.func5, Tryz.ntmps5
    go_wp2_with fail
    refine HRaw.out.mono ?_
    rintro e w' ⟨rfl, rfl⟩
    go_wp2_with fail
    go_ret
    exact ⟨rfl, Ext.refl _⟩

end Go.Proofs.YtgihpfkjpfanmaaGreat
