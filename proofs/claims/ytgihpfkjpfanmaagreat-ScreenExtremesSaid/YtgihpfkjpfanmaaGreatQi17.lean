/- Texts of the proof: Sc12, Sc13. -/
import Derived.Deep.DeepCutAuto
import Derived.Deep.CutBlock
import Derived.IntWalk
import Derived.Test.YtgihpfkjpfanmaaGreatRows
import Derived.Laws.AppendOwnNone
import Derived.Deep.LoopGhost
import Derived.Deep.Slices
import Derived.Deep.RegionHeld
import Derived.KernelRfl
import Derived.WalkKit
import Derived.WalkSpells
import Derived.Sort.Grow
import Derived.Lib.Hide
import Derived.Laws.CopyOwn
import Derived.Laws.BitsAllLaws
import Derived.Deep.QuietTactic
import Derived.BigQuiet
import Derived.WalkLawsBesides
import Derived.Deep.RegionWith
import Derived.Deep.RegionHeld3
import Derived.Test.YtgihpfkjpfanmaaGreatProg
import Derived.Shelf.SlSortCmp.NoneTotal
import Derived.Maps.RangeWalk
import Derived.Maps.OwnSet
import Derived.Maps.OwnOps
import Derived.Maps.Views
import Derived.Lib.MinMax
import Derived.Shelf.SlMaps.Clone
import Derived.Shelf.SlicesE.Reverse
import Derived.Test.YtgihpfkjpfanmaaGreatChecked
import Derived.Lib.Strings
import Derived.Lib.Slices
import Derived.Lib.Small
import Derived.Lib.Walk
import Derived.Lib.BitFns
import Derived.ProofKit
import Derived.OpenShut
import Derived.ShutString
import Derived.ChangeOld
import Derived.Below
import Derived.Test.YtgihpfkjpfanmaaGreatQi1
import Derived.Test.YtgihpfkjpfanmaaGreatQi2
import Derived.Test.YtgihpfkjpfanmaaGreatQi3
import Derived.Test.YtgihpfkjpfanmaaGreatQi4
import Derived.Test.YtgihpfkjpfanmaaGreatQi5
import Derived.Test.YtgihpfkjpfanmaaGreatQi6
import Derived.Test.YtgihpfkjpfanmaaGreatQi7
import Derived.Test.YtgihpfkjpfanmaaGreatQi8
import Derived.Test.YtgihpfkjpfanmaaGreatQi9
import Derived.Test.YtgihpfkjpfanmaaGreatQi10
import Derived.Test.YtgihpfkjpfanmaaGreatQi11
import Derived.Test.YtgihpfkjpfanmaaGreatQi12
import Derived.Test.YtgihpfkjpfanmaaGreatQi13
import Derived.Test.YtgihpfkjpfanmaaGreatQi14
import Derived.Test.YtgihpfkjpfanmaaGreatQi15
import Derived.Test.YtgihpfkjpfanmaaGreatQi16
namespace Go.Proofs.YtgihpfkjpfanmaaGreat
open Go.RowKit

/-- The lists of ScreenInside. -/
structure InAt (w : World) (U1 U2 n : Nat) (aA aV : Option Addr) (cA cV : Nat) (AT V : Nat → Int) (σ : Int → Int) (wr : World) : Prop where
  ext : Ext w wr
  at' : MyInts wr w.heap.size U1 aA cA ((List.range n).map AT)
  v : MyInts wr U1 U2 aV cV ((List.range n).map V)
  s : Arr wr U2 60 (three σ)

theorem InAt.setV {w : World} {U1 U2 n : Nat} {aA : Option Addr} {gv cA cV : Nat} {AT V : Nat → Int} {σ : Int → Int} {wr : World} (h : InAt w U1 U2 n aA (some ⟨gv, 0, none⟩) cA cV AT V σ wr) (h1 : U1 ≤ gv) (h2 : gv < U2) (hU : w.heap.size ≤ U1) (i : Nat) (hi : i < n) (x : Int) (V' : Nat → Int) (hx : V' i = x) (hV : ∀ j, j < n → j ≠ i → V' j = V j) :
    InAt w U1 U2 n aA (some ⟨gv, 0, none⟩) cA cV AT V' σ (wr.setCell ⟨gv, i, none⟩ (.int .i64 x)) := by
  refine ⟨h.ext.setCell (by simp only; omega) _, h.at'.other _ _ (Or.inr (by simp only; omega)), ?_, h.s.other _ _ (by simp only; omega)⟩
  have h5 := h.v.set i x
  rw [map_range_set n i V V' x hi hx hV] at h5
  exact h5
theorem InAt.setS {w : World} {U1 U2 n : Nat} {aA aV : Option Addr} {cA cV : Nat} {AT V : Nat → Int} {σ : Int → Int} {wr : World} (h : InAt w U1 U2 n aA aV cA cV AT V σ wr) (hU : w.heap.size ≤ U1) (hU2 : U1 ≤ U2) (k : Nat) (hk : k < 3) (x : Int) (σ' : Int → Int) (hσ : ∀ y, upd σ k x y = σ' y) :
    InAt w U1 U2 n aA aV cA cV AT V σ' (wr.setCell ⟨U2, k, none⟩ (.int .i64 x)) := by
  refine ⟨h.ext.setCell (by simp only; omega) _, h.at'.other _ _ (Or.inr (by simp only; omega)), h.v.other _ _ (Or.inr (by simp only; omega)), ?_⟩
  have h5 := h.s.set k (.int .i64 x)
  rw [three_set σ k hk, show upd σ k x = σ' from funext hσ] at h5
  exact h5
theorem InAt.drew {w : World} {U1 U2 n : Nat} {aA aV : Option Addr} {cA cV : Nat} {AT V : Nat → Int} {σ : Int → Int} {wr : World} (h : InAt w U1 U2 n aA aV cA cV AT V σ wr) : InAt w U1 U2 n aA aV cA cV AT V σ wr.drew :=
  ⟨h.ext.drew, h.at'.ext (Ext.refl _).drew, h.v.ext (Ext.refl _).drew, h.s.ext (Ext.refl _).drew⟩
theorem InAt.ext' {w : World} {U1 U2 n : Nat} {aA aV : Option Addr} {cA cV : Nat} {AT V : Nat → Int} {σ : Int → Int} {wr wr' : World} (h : InAt w U1 U2 n aA aV cA cV AT V σ wr) (e : Ext wr wr') : InAt w U1 U2 n aA aV cA cV AT V σ wr' :=
  ⟨h.ext.trans e, h.at'.ext e, h.v.ext e, h.s.ext e⟩
/-- The cells of a round. -/
theorem InAt.cells {w : World} {U1 U2 n ga gv cA cV : Nat} {AT V : Nat → Int} {σ : Int → Int} {wr : World} (h : InAt w U1 U2 n (some ⟨ga, 0, none⟩) (some ⟨gv, 0, none⟩) cA cV AT V σ wr) (i k : Nat) (hi : i < n) (hk : AT i = (k : Int)) (hk3 : k < 3) :
    wr.cell? ⟨ga, i, none⟩ = some (.int .i64 (k : Int)) ∧ wr.cell? ⟨gv, i, none⟩ = some (.int .i64 (V i)) ∧ wr.frozen? ⟨gv, i, none⟩ = false ∧ wr.cell? ⟨U2, k, none⟩ = some (.int .i64 (σ k)) ∧ wr.frozen? ⟨U2, k, none⟩ = false := by
  obtain ⟨h1, _⟩ := h.at'.get i (by simpa using hi)
  obtain ⟨h2, h3⟩ := h.v.get i (by simpa using hi)
  rw [List.getElem_map, List.getElem_range] at h1 h2
  rw [hk] at h1
  exact ⟨h1, h2, h3, by rw [h.s.cell]; exact three_get σ k hk3, h.s.frozen k⟩

theorem InAt.far {w : World} {U1 U2 n : Nat} {aA aV : Option Addr} {cA cV : Nat} {AT V : Nat → Int} {σ : Int → Int} {wr : World} (h : InAt w U1 U2 n aA aV cA cV AT V σ wr) (hU : w.heap.size ≤ U1) (hU2 : U1 ≤ U2) (p : Addr) (x : Value) (hp : U2 < p.block) : InAt w U1 U2 n aA aV cA cV AT V σ (wr.setCell p x) :=
  ⟨h.ext.setCell (by omega) _, h.at'.other _ _ (Or.inr (by omega)), h.v.other _ _ (Or.inr (by omega)), h.s.other _ _ (by omega)⟩

/-- The third loop. -/
structure ThAt (w : World) (U1 U2 U3 U4 U5 Bz n : Nat) (aA aV aL aH : Option Addr) (cA cV cL cH : Nat) (AT V LO HI : Nat → Int) (σ : Int → Int) (q : Rat) (wr : World) : Prop where
  base : InAt w U1 U2 n aA aV cA cV AT V σ wr
  lo : MyInts wr U3 U4 aL cL ((List.range n).map LO)
  hi : MyInts wr U4 U5 aH cH ((List.range n).map HI)
  sum : ∃ r : RVal, Arr wr Bz 55 r.cells ∧ IsCan wr r q U5
/-- The order of the blocks. -/
structure Ord5 (w : World) (U1 U2 U3 U4 U5 Bz : Nat) : Prop where
  a : w.heap.size ≤ U1
  b : U1 ≤ U2
  c : U2 < U3
  d : U3 ≤ U4
  e : U4 ≤ U5
  f : U5 ≤ Bz
section
variable {w : World} {U1 U2 U3 U4 U5 Bz n : Nat} {aA aV aL aH : Option Addr} {cA cV cL cH : Nat} {AT V LO HI : Nat → Int} {σ : Int → Int} {q : Rat} {wr : World}
theorem ThAt.setL {gl : Nat} (h : ThAt w U1 U2 U3 U4 U5 Bz n aA aV (some ⟨gl, 0, none⟩) aH cA cV cL cH AT V LO HI σ q wr) (o : Ord5 w U1 U2 U3 U4 U5 Bz) (h1 : U3 ≤ gl) (h2 : gl < U4) (i : Nat) (hi : i < n) (x : Int) (L' : Nat → Int) (hx : L' i = x) (hL : ∀ j, j < n → j ≠ i → L' j = LO j) :
    ThAt w U1 U2 U3 U4 U5 Bz n aA aV (some ⟨gl, 0, none⟩) aH cA cV cL cH AT V L' HI σ q (wr.setCell ⟨gl, i, none⟩ (.int .i64 x)) := by
  obtain ⟨oa, ob, oc, od, oe, of'⟩ := o
  refine ⟨h.base.far oa ob _ _ (by simp only; omega), ?_, h.hi.other _ _ (Or.inl (by simp only; omega)), ?_⟩
  · have h5 := h.lo.set i x
    rw [map_range_set n i LO L' x hi hx hL] at h5
    exact h5
  · obtain ⟨r, h5, h6⟩ := h.sum
    exact ⟨r, h5.other _ _ (by simp only; omega), h6.setCell _ _ (by simp only; omega)⟩
theorem ThAt.setH {gh : Nat} (h : ThAt w U1 U2 U3 U4 U5 Bz n aA aV aL (some ⟨gh, 0, none⟩) cA cV cL cH AT V LO HI σ q wr) (o : Ord5 w U1 U2 U3 U4 U5 Bz) (h1 : U4 ≤ gh) (h2 : gh < U5) (i : Nat) (hi : i < n) (x : Int) (H' : Nat → Int) (hx : H' i = x) (hH : ∀ j, j < n → j ≠ i → H' j = HI j) :
    ThAt w U1 U2 U3 U4 U5 Bz n aA aV aL (some ⟨gh, 0, none⟩) cA cV cL cH AT V LO H' σ q (wr.setCell ⟨gh, i, none⟩ (.int .i64 x)) := by
  obtain ⟨oa, ob, oc, od, oe, of'⟩ := o
  refine ⟨h.base.far oa ob _ _ (by simp only; omega), h.lo.other _ _ (Or.inr (by simp only; omega)), ?_, ?_⟩
  · have h5 := h.hi.set i x
    rw [map_range_set n i HI H' x hi hx hH] at h5
    exact h5
  · obtain ⟨r, h5, h6⟩ := h.sum
    exact ⟨r, h5.other _ _ (by simp only; omega), h6.setCell _ _ (by simp only; omega)⟩
theorem ThAt.ext' {wr' : World} (h : ThAt w U1 U2 U3 U4 U5 Bz n aA aV aL aH cA cV cL cH AT V LO HI σ q wr) (e : Ext wr wr') : ThAt w U1 U2 U3 U4 U5 Bz n aA aV aL aH cA cV cL cH AT V LO HI σ q wr' := by
  obtain ⟨r, h5, h6⟩ := h.sum
  exact ⟨h.base.ext' e, h.lo.ext e, h.hi.ext e, r, h5.ext e, h6.ext e⟩
theorem ThAt.setR (h : ThAt w U1 U2 U3 U4 U5 Bz n aA aV aL aH cA cV cL cH AT V LO HI σ q wr) (o : Ord5 w U1 U2 U3 U4 U5 Bz) {r : RVal} {q' : Rat} {B : Nat} (hr : IsCan wr r q' B) (hB : Bz < B) :
    ThAt w U1 U2 U3 U4 U5 Bz n aA aV aL aH cA cV cL cH AT V LO HI σ q' (((wr.setCell ⟨Bz, 0, none⟩ (.bool r.s)).setCell ⟨Bz, 1, none⟩ (.slice r.a r.k r.c)).setCell ⟨Bz, 2, none⟩ (.slice r.b r.j r.d)) := by
  obtain ⟨oa, ob, oc, od, oe, of'⟩ := o
  obtain ⟨r0, h5, h6⟩ := h.sum
  refine ⟨((h.base.far oa ob ⟨Bz, 0, none⟩ _ (by simp only; omega)).far oa ob ⟨Bz, 1, none⟩ _ (by simp only; omega)).far oa ob ⟨Bz, 2, none⟩ _ (by simp only; omega), ((h.lo.other ⟨Bz, 0, none⟩ _ (Or.inr (by simp only; omega))).other ⟨Bz, 1, none⟩ _ (Or.inr (by simp only; omega))).other ⟨Bz, 2, none⟩ _ (Or.inr (by simp only; omega)), ((h.hi.other ⟨Bz, 0, none⟩ _ (Or.inr (by simp only; omega))).other ⟨Bz, 1, none⟩ _ (Or.inr (by simp only; omega))).other ⟨Bz, 2, none⟩ _ (Or.inr (by simp only; omega)), r, ((h5.set 0 _).set 1 _).set 2 _, (hr.same3 Bz hB).mono (by omega)⟩
theorem ThAt.cells {gv gl gh : Nat} (h : ThAt w U1 U2 U3 U4 U5 Bz n aA (some ⟨gv, 0, none⟩) (some ⟨gl, 0, none⟩) (some ⟨gh, 0, none⟩) cA cV cL cH AT V LO HI σ q wr) (i : Nat) (hi : i < n) :
    wr.cell? ⟨gv, i, none⟩ = some (.int .i64 (V i)) ∧ wr.cell? ⟨gl, i, none⟩ = some (.int .i64 (LO i)) ∧ wr.frozen? ⟨gl, i, none⟩ = false ∧ wr.cell? ⟨gh, i, none⟩ = some (.int .i64 (HI i)) ∧ wr.frozen? ⟨gh, i, none⟩ = false := by
  obtain ⟨h1, _⟩ := h.base.v.get i (by simpa using hi)
  obtain ⟨h2, h3⟩ := h.lo.get i (by simpa using hi)
  obtain ⟨h4, h5⟩ := h.hi.get i (by simpa using hi)
  rw [List.getElem_map, List.getElem_range] at h1 h2 h4
  exact ⟨h1, h2, h3, h4, h5⟩
end

/-- The second loop. -/
structure Two (n i : Nat) (AT V : Nat → Int) (σ : Int → Int) : Prop where
  sum : ∀ k, ksum AT V k (List.range n) = σ k
  done : ∀ j, j < i → σ (AT j) = 0
  vb : ∀ j, j < n → -700 ≤ V j ∧ V j ≤ 700
  vs : ∀ j, i ≤ j → j < n → -20 ≤ V j ∧ V j ≤ 20
  sb : ∀ k, -600 ≤ σ k ∧ σ k ≤ 600
theorem Two.next {n i : Nat} {AT V : Nat → Int} {σ : Int → Int} (h : Two n i AT V σ) (hi : i < n) : Two n (i + 1) AT (fun j => if j = i then V i - σ (AT i) else V j) (upd σ (AT i) 0) := by
  refine ⟨fun k => ?_, fun j hj => ?_, fun j hj => ?_, fun j h1 h2 => ?_, fun k => ?_⟩
  · rw [ksum_change AT V _ k n i hi (fun j _ hne => if_neg hne), h.sum k]
    simp only [if_true]
    by_cases hk : AT i = k
    · rw [if_pos hk, ← hk, upd_self]; omega
    · rw [if_neg hk, upd_other _ _ _ _ (fun e => hk e.symm)]; omega
  · by_cases hk : AT j = AT i
    · rw [hk, upd_self]
    · rw [upd_other _ _ _ _ hk]
      rcases Nat.lt_or_ge j i with h1 | h1
      · exact h.done j h1
      · have : j = i := by omega
        subst this; exact absurd rfl hk
  · have h1 := h.vs i (Nat.le_refl _) hi
    have h2 := h.sb (AT i)
    have h3 := h.vb j hj
    split <;> omega
  · have h3 := h.vs j (by omega) h2
    rw [if_neg (by omega)]; exact h3
  · have h3 := h.sb k
    by_cases hk : k = AT i
    · rw [hk, upd_self]; omega
    · rw [upd_other _ _ _ _ hk]; exact h3

theorem fillSum_rsz (t : Nat → Rat) (lo hi isl : Nat → Int) (M : Nat) (l : List Nat) : ∀ m : Int → Int, (∀ k, 0 ≤ m k) → (∀ i ∈ l, rsz (t i) ≤ M ∧ -1073741824 ≤ lo i ∧ lo i ≤ hi i ∧ hi i ≤ 1073741824) → rsz (fillSum t lo hi isl l m) ≤ 1 + l.length * (M + 6) := by
  induction l with
  | nil => intro m _ _; show rsz 0 ≤ _; have : rsz 0 ≤ 1 := by decide +kernel
           simp; exact this
  | cons i l ih =>
    intro m hm h
    obtain ⟨h1, h2, h3, h4⟩ := h i List.mem_cons_self
    have hmi := hm (isl i)
    have hx : 0 ≤ moreOf lo hi isl m i ∧ moreOf lo hi isl m i ≤ hi i - lo i ∧ moreOf lo hi isl m i ≤ m (isl i) := by unfold moreOf; omega
    have h5 := ih (fillM lo hi isl m i) (fun k => by
      unfold fillM
      by_cases hk : k = isl i
      · rw [hk, upd_self]; omega
      · rw [upd_other _ _ _ _ hk]; exact hm k) (fun j hj => h j (List.mem_cons_of_mem _ hj))
    unfold fillSum
    generalize moreOf lo hi isl m i = x at *
    have h6 := rsz_add (t i * (((lo i + x : Int)) : Rat)) (fillSum t lo hi isl l (fillM lo hi isl m i))
    have h7 := rsz_mul (t i) (((lo i + x : Int)) : Rat)
    have h8 := len_i64 (z := lo i + x) (by omega) (by omega)
    rw [List.length_cons, Nat.succ_mul]
    omega
theorem ksum_none (isl f : Nat → Int) (k : Int) (l : List Nat) (h : ∀ j ∈ l, isl j ≠ k) : ksum isl f k l = 0 := by
  induction l with
  | nil => rfl
  | cons i l ih =>
    unfold ksum
    rw [if_neg (h i List.mem_cons_self), ih (fun j hj => h j (List.mem_cons_of_mem _ hj))]; rfl
theorem Two.zero {n : Nat} {AT V : Nat → Int} {σ : Int → Int} (h : Two n n AT V σ) (k : Int) : ksum AT V k (List.range n) = 0 := by
  by_cases hk : ∃ j, j < n ∧ AT j = k
  · obtain ⟨j, hj, rfl⟩ := hk
    rw [h.sum]; exact h.done j hj
  · exact ksum_none _ _ _ _ (fun j hj e => hk ⟨j, List.mem_range.1 hj, e⟩)
theorem Two.start {n : Nat} {AT X V : Nat → Int} {σ : Int → Int} (hn : n ≤ 30) (hX : ∀ i, 0 ≤ X i ∧ X i < 41) (hV : ∀ j, j < n → V j = X j - 20) (hs : ∀ k, σ k = ksum AT (fun j => X j - 20) k (List.range n)) : Two n 0 AT V σ := by
  refine ⟨fun k => ?_, fun j hj => absurd hj (Nat.not_lt_zero _), fun j hj => ?_, fun j _ hj => ?_, fun k => ?_⟩
  · rw [hs k]; exact ksum_congr _ _ _ _ _ _ (fun j hj => hV j (List.mem_range.1 hj)) (fun _ _ => rfl)
  · have := hX j; rw [hV j hj]; omega
  · have := hX j; rw [hV j hj]; omega
  · have h1 := ksum_bound AT (fun j => X j - 20) k 20 n (by omega) (fun j _ => by have := hX j; omega)
    rw [hs k]; omega

set_option maxHeartbeats 4000000 in
set_option maxRecDepth 100000 in
theorem law30_inside (w : World) (ta xa ba ua ia : Option Addr) (tc xc bc uc ic : Nat) (rs : List RVal) (xs below above isl : List Int) (hT : RatsIn w ta tc rs) (hr : IsRaw rs) (hx : IntIn w xa xc xs) (hb : IntIn w ba bc below) (hu : IntIn w ua uc above) (hi : IntIn w ia ic isl)
    (l1 : xs.length ≤ 40) (l2 : below.length ≤ 40) (l3 : above.length ≤ 40) (l4 : isl.length ≤ 40) :
    Calls Tryz.prog 6 #[.slice ta rs.length tc, .slice xa xs.length xc, .slice ba below.length bc, .slice ua above.length uc, .slice ia isl.length ic] w fun e w' => e = .returned (.bool true) ∧ Ext w w' := by
  obtain ⟨qs, hR, hS⟩ := hT.rats hr
  have hn := hr.1
  have HRaw := Lib.hid (stage_Raw_yes w ta tc rs hT hr)
  have d1 : decide ((40 : Int) < (xs.length : Int)) = false := by simp; omega
  have d2 : decide ((40 : Int) < (below.length : Int)) = false := by simp; omega
  have d3 : decide ((40 : Int) < (above.length : Int)) = false := by simp; omega
  have d4 : decide ((40 : Int) < (isl.length : Int)) = false := by simp; omega
  obtain ⟨n, hnn⟩ : ∃ n, n = rs.length := ⟨_, rfl⟩
  rw [← hnn] at hn HRaw ⊢
  have hRle := hR.le; have hRcap := hR.cap
  rw [← hnn] at hRle
  have q1 := hx.le; have q2 := hx.cap; have q3 := hb.le; have q4 := hb.cap; have q5 := hu.le; have q6 := hu.cap; have q7 := hi.le; have q8 := hi.cap
  have HR := Lib.hid hR; have HS := Lib.hid hS; have HX := Lib.hid hx; have HB := Lib.hid hb; have HU := Lib.hid hu; have HI := Lib.hid hi; have HNN := Lib.hid hnn
  clear hR hS hx hb hu hi hT hr hnn
  go_enter Tryz.func6, Tryz.ntmps6
  go_wp2_with fail
  refine HRaw.out.mono ?_
  rintro e w' ⟨rfl, rfl⟩
  clear HRaw
  go_wp2_with fail
  refine (sc_fit w ta ia n tc ic isl 3 HI.out (by omega) (by omega) (by omega) (by omega)).mono ?_
  rintro e w1 ⟨aA, cA, rfl, hA1, x1⟩
  go_wp2_with fail
  refine (sc_fit w1 ta xa n tc xc xs 41 (HX.out.ext x1) (by omega) (by omega) (by omega) (by omega)).mono ?_
  rintro e w2 ⟨aV, cV, rfl, hV2, x2⟩
  have hU1 := x1.size
  have hU2 := x2.size
  go_upto_region 6 with fail
  obtain ⟨W3, hW3, x3, Z3, A3⟩ := boxes1 w2 60 (three (fun _ => 0))
  rw [show w2.alloc (.cells #[.int .i64 0, .int .i64 0, .int .i64 0] 60) = W3 from hW3.symm]
  clear hW3
  have SI : Hid (InAt w w1.heap.size w2.heap.size n aA aV cA cV (fitV isl 3) (fitV xs 41) (fun _ => 0) W3) := ⟨(x1.trans x2).trans x3, hA1.ext (x2.trans x3), hV2.ext x3, A3⟩
  have hAT : ∀ i, ∃ k : Nat, fitV isl 3 i = (k : Int) ∧ k < 3 := fun i => by
    have := fitV_range isl 3 (by omega) i
    exact ⟨(fitV isl 3 i).toNat, by omega, by omega⟩
  have hXX := fun i => fitV_range xs 41 (by omega) i
  obtain ⟨AT, hATe⟩ : ∃ AT, AT = fitV isl 3 := ⟨_, rfl⟩
  obtain ⟨X, hXe⟩ : ∃ X, X = fitV xs 41 := ⟨_, rfl⟩
  rw [← hATe] at SI hAT
  rw [← hXe] at SI hXX
  have HAT := Lib.hid hAT; have HXX := Lib.hid hXX
  obtain ⟨U1, hU1e⟩ : ∃ U1, U1 = w1.heap.size := ⟨_, rfl⟩
  obtain ⟨U2, hU2e⟩ : ∃ U2, U2 = w2.heap.size := ⟨_, rfl⟩
  rw [← hU1e, ← hU2e] at SI
  rw [← hU2e]
  rw [← hU1e] at hU1 hU2
  rw [← hU2e] at hU2
  clear hAT hXX hATe hXe hA1 hV2 A3 x3 Z3 hU1e hU2e
  have e0 : InAt w U1 U2 n aA aV cA cV AT (fun j => if j < 0 then X j - 20 else X j) (fun k => ksum AT (fun j => X j - 20) k (List.range 0)) W3 := by
    have e1 : (fun j => if j < 0 then X j - 20 else X j) = X := by funext j; simp
    have e2 : (fun k => ksum AT (fun j => X j - 20) k (List.range 0)) = (fun _ => 0) := by funext k; simp [ksum]
    rw [e1, e2]; exact SI.out
  have E0 := Lib.hid e0
  clear e0 SI
  go_wp2_with fail
  go_loopw [14] (fun ii wr => ∃ i : Nat, i ≤ n ∧ InAt w U1 U2 n aA aV cA cV AT (fun j => if j < i then X j - 20 else X j) (fun k => ksum AT (fun j => X j - 20) k (List.range i)) wr ∧ ii = .int .i64 i) (fun ii _ => n - (intOf ii).toNat)
  case atStart => exact ⟨0, Nat.zero_le _, E0.out, rfl⟩
  case round =>
    obtain ⟨i, hi0, hAt, rfl⟩ := hrel
    clear E0
    by_cases hlt : i < n
    · obtain ⟨k, hk, hk3⟩ := HAT.out i
      obtain ⟨ga, rfl, -, -⟩ := hAt.at'.at (by simpa using Nat.lt_of_le_of_lt (Nat.zero_le _) hlt)
      obtain ⟨gv, rfl, hg1, hg2⟩ := hAt.v.at (by simpa using Nat.lt_of_le_of_lt (Nat.zero_le _) hlt)
      have hXi := HXX.out i
      have hca := hAt.at'.le; have hcb := hAt.at'.cap; have hcc := hAt.v.le; have hcd := hAt.v.cap
      rw [List.length_map, List.length_range] at hca hcc
      have hsb := ksum_bound AT (fun j => X j - 20) k 20 i (by omega) (fun j _ => by have := HXX.out j; omega)
      have hAt1 := hAt.setV hg1 hg2 hU1 i hlt (X i - 20) (fun j => if j < i + 1 then X j - 20 else X j) (by simp) (fun j _ hne => by
        by_cases h1 : j < i
        · rw [if_pos h1, if_pos (by omega)]
        · rw [if_neg h1, if_neg (by omega)])
      have hAt2 := hAt1.drew.setS hU1 hU2 k hk3 (ksum AT (fun j => X j - 20) k (List.range i) + (X i - 20)) (fun y => ksum AT (fun j => X j - 20) y (List.range (i + 1))) (fun y => by
        rw [ksum_range_succ, hk]
        by_cases hy : y = (k : Int)
        · rw [hy, upd_self, if_pos rfl]
        · rw [upd_other _ _ _ _ hy, if_neg (fun e => hy e.symm)]; omega)
      obtain ⟨c0, c1, f1, -, -⟩ := hAt.cells i k hlt hk hk3
      simp only [Nat.lt_irrefl, if_false] at c1
      obtain ⟨c2, c3, -, c4, f4⟩ := hAt1.cells i k hlt hk hk3
      simp only [Nat.lt_succ_self, if_true] at c3
      generalize hsg : ksum AT (fun j => X j - 20) k (List.range i) = sg at *
      have hw1 : IntKind.i64.wrap (sg + (X i - 20)) = sg + (X i - 20) := by rw [IntKind.wrap_i64]; omega
      have HA2 := Lib.hid hAt2
      clear hAt hAt1 hAt2
      generalize X i = xi at *
      have bi0 : (0 : Int) ≤ (i : Int) := by omega
      have bi1 : (i : Int) < (n : Int) := by omega
      have bk0 : (0 : Int) ≤ (k : Int) := by omega
      have bk1 : (k : Int) < 3 := by omega
      go_upto_region 10 with fail
      generalize hW5 : wr.setCell ⟨gv, i, none⟩ (.int .i64 (xi - 20)) = W5 at *
      clear c0 c1 f1
      go_wp2_with fail
      refine wp_region_Z (S := fun w' => w'.cell? ⟨ga, i, none⟩ = some (.int .i64 (k : Int)) ∧ w'.cell? ⟨gv, i, none⟩ = some (.int .i64 (xi - 20)) ∧ w'.cell? ⟨U2, k, none⟩ = some (.int .i64 sg) ∧ w'.frozen? ⟨U2, k, none⟩ = false) (fun i => i == 12) (by kernel_rfl) (⟨c2, c3, c4, f4⟩) (fun hHeld => ?_)
      refine wpAnyZ_take (i := 0) (v := .slice (some ⟨ga, 0, none⟩) n cA) rfl (by kernel_rfl) (by kernel_rfl) (by kernel_rfl) (by kernel_rfl) (fun _ _ _ h => h) (Or.inl ⟨by rfl, fun w hSw => by (obtain ⟨e0, e1, e2, e3⟩ := hSw; go_simp)⟩) hHeld ?_
      try simp only [List.getElem_toArray, List.getElem_cons_zero, Act.put, List.setIfInBounds_toArray, List.set_cons_zero, List.set_cons_succ]
      refine wpAnyZ_take (i := 1) (v := .int .i64 (i : Int)) rfl (by kernel_rfl) (by kernel_rfl) (by kernel_rfl) (by kernel_rfl) (fun _ _ _ h => h) (Or.inl ⟨by rfl, fun w hSw => by (obtain ⟨e0, e1, e2, e3⟩ := hSw; go_simp)⟩) hHeld ?_
      try simp only [List.getElem_toArray, List.getElem_cons_succ, List.getElem_cons_zero, Act.put, List.setIfInBounds_toArray, List.set_cons_zero, List.set_cons_succ]
      refine wpAnyZ_take (i := 2) (v := .pointer (some ⟨ga, i, none⟩)) rfl (by kernel_rfl) (by kernel_rfl) (by kernel_rfl) (by kernel_rfl) (fun _ _ _ h => h) (Or.inl ⟨by rfl, fun w hSw => by (obtain ⟨e0, e1, e2, e3⟩ := hSw; go_simp)⟩) hHeld ?_
      try simp only [List.getElem_toArray, List.getElem_cons_succ, List.getElem_cons_zero, Act.put, List.setIfInBounds_toArray, List.set_cons_zero, List.set_cons_succ]
      refine wpAnyZ_take (i := 3) (v := .int .i64 (k : Int)) rfl (by kernel_rfl) (by kernel_rfl) (by kernel_rfl) (by kernel_rfl) (fun _ _ _ h => h) (Or.inl ⟨by rfl, fun w hSw => by (obtain ⟨e0, e1, e2, e3⟩ := hSw; go_simp)⟩) hHeld ?_
      try simp only [List.getElem_toArray, List.getElem_cons_succ, List.getElem_cons_zero, Act.put, List.setIfInBounds_toArray, List.set_cons_zero, List.set_cons_succ]
      refine wpAnyZ_take (i := 6) (v := .slice (some ⟨gv, 0, none⟩) n cV) rfl (by kernel_rfl) (by kernel_rfl) (by kernel_rfl) (by kernel_rfl) (fun _ _ _ h => h) (Or.inl ⟨by rfl, fun w hSw => by (obtain ⟨e0, e1, e2, e3⟩ := hSw; go_simp)⟩) hHeld ?_
      try simp only [List.getElem_toArray, List.getElem_cons_succ, List.getElem_cons_zero, Act.put, List.setIfInBounds_toArray, List.set_cons_zero, List.set_cons_succ]
      refine wpAnyZ_take (i := 7) (v := .int .i64 (i : Int)) rfl (by kernel_rfl) (by kernel_rfl) (by kernel_rfl) (by kernel_rfl) (fun _ _ _ h => h) (Or.inl ⟨by rfl, fun w hSw => by (obtain ⟨e0, e1, e2, e3⟩ := hSw; go_simp)⟩) hHeld ?_
      try simp only [List.getElem_toArray, List.getElem_cons_succ, List.getElem_cons_zero, Act.put, List.setIfInBounds_toArray, List.set_cons_zero, List.set_cons_succ]
      refine wpAnyZ_take (i := 8) (v := .pointer (some ⟨gv, i, none⟩)) rfl (by kernel_rfl) (by kernel_rfl) (by kernel_rfl) (by kernel_rfl) (fun _ _ _ h => h) (Or.inl ⟨by rfl, fun w hSw => by (obtain ⟨e0, e1, e2, e3⟩ := hSw; go_simp)⟩) hHeld ?_
      try simp only [List.getElem_toArray, List.getElem_cons_succ, List.getElem_cons_zero, Act.put, List.setIfInBounds_toArray, List.set_cons_zero, List.set_cons_succ]
      refine wpAnyZ_take (i := 9) (v := .int .i64 (xi - 20)) rfl (by kernel_rfl) (by kernel_rfl) (by kernel_rfl) (by kernel_rfl) (fun _ _ _ h => h) (Or.inl ⟨by rfl, fun w hSw => by (obtain ⟨e0, e1, e2, e3⟩ := hSw; go_simp)⟩) hHeld ?_
      try simp only [List.getElem_toArray, List.getElem_cons_succ, List.getElem_cons_zero, Act.put, List.setIfInBounds_toArray, List.set_cons_zero, List.set_cons_succ]
      refine wpAnyZ_take (i := 4) (v := .pointer (some ⟨U2, k, none⟩)) rfl (by kernel_rfl) (by kernel_rfl) (by kernel_rfl) (by kernel_rfl) (fun _ _ _ h => h) (Or.inl ⟨by rfl, fun w hSw => by (obtain ⟨e0, e1, e2, e3⟩ := hSw; go_simp)⟩) hHeld ?_
      try simp only [List.getElem_toArray, List.getElem_cons_succ, List.getElem_cons_zero, Act.put, List.setIfInBounds_toArray, List.set_cons_zero, List.set_cons_succ]
      refine wpAnyZ_take (i := 5) (v := .int .i64 sg) rfl (by kernel_rfl) (by kernel_rfl) (by kernel_rfl) (by kernel_rfl) (fun _ _ _ h => h) (Or.inl ⟨by rfl, fun w hSw => by (obtain ⟨e0, e1, e2, e3⟩ := hSw; go_simp)⟩) hHeld ?_
      try simp only [List.getElem_toArray, List.getElem_cons_succ, List.getElem_cons_zero, Act.put, List.setIfInBounds_toArray, List.set_cons_zero, List.set_cons_succ]
      refine wpAnyZ_take (i := 10) (v := .int .i64 (sg + (xi - 20))) rfl (by kernel_rfl) (by kernel_rfl) (by kernel_rfl) (by kernel_rfl) (fun _ _ _ h => h) (Or.inl ⟨by rfl, fun w hSw => by (obtain ⟨e0, e1, e2, e3⟩ := hSw; go_simp)⟩) hHeld ?_
      try simp only [List.getElem_toArray, List.getElem_cons_succ, List.getElem_cons_zero, Act.put, List.setIfInBounds_toArray, List.set_cons_zero, List.set_cons_succ]
      refine wpAnyZ_take (i := 11) (v := .pointer (some ⟨U2, k, none⟩)) rfl (by kernel_rfl) (by kernel_rfl) (by kernel_rfl) (by kernel_rfl) (fun _ _ _ h => h) (Or.inl ⟨by rfl, fun w hSw => by (obtain ⟨e0, e1, e2, e3⟩ := hSw; go_simp)⟩) hHeld ?_
      try simp only [List.getElem_toArray, List.getElem_cons_succ, List.getElem_cons_zero, Act.put, List.setIfInBounds_toArray, List.set_cons_zero, List.set_cons_succ]
      refine wpAnyZ_ready (rs := [12]) (by kernel_rfl) (by simp) ?_
      refine AllReadyZ.last rfl rfl (fun Kc hK => ?_) AllReadyZ.nil
      go_simp
      
      refine hK.out _ _ ?_
      clear hK Kc
      try simp only [List.getElem_toArray, List.getElem_cons_succ, List.getElem_cons_zero, Act.put]
      refine wpAnyZ_done (by kernel_rfl) ?_ _
      clear hHeld
      go_wp2_with fail
      exact ⟨⟨i + 1, by omega, HA2.out, by go_num⟩, by simp only [intOf]; omega⟩
    · obtain rfl : n = i := by omega
      have hTw : Two n 0 AT (fun j => if j < n then X j - 20 else X j) (fun k => ksum AT (fun j => X j - 20) k (List.range n)) := Two.start hn HXX.out (fun j hj => if_pos hj) (fun k => rfl)
      generalize (fun j => if j < n then X j - 20 else X j) = V0 at *
      generalize (fun k => ksum AT (fun j => X j - 20) k (List.range n)) = σ0 at *
      have HTW := Lib.hid hTw; have HAT0 := Lib.hid hAt
      clear hTw hAt hi0 hlt HXX
      go_wp2_with fail
      go_loopw [15] (fun ii wr => ∃ (i : Nat) (V : Nat → Int) (σ : Int → Int), i ≤ n ∧ InAt w U1 U2 n aA aV cA cV AT V σ wr ∧ Two n i AT V σ ∧ ii = .int .i64 i) (fun ii _ => n - (intOf ii).toNat)
      case atStart => exact ⟨0, V0, σ0, Nat.zero_le _, HAT0.out, HTW.out, rfl⟩
      case round =>
        obtain ⟨i, V, σ, hi0, hAt, hTw, rfl⟩ := hrel
        clear HTW HAT0
        by_cases hlt : i < n
        · obtain ⟨k, hk, hk3⟩ := HAT.out i
          obtain ⟨ga, rfl, -, -⟩ := hAt.at'.at (by simpa using Nat.lt_of_le_of_lt (Nat.zero_le _) hlt)
          obtain ⟨gv, rfl, hg1, hg2⟩ := hAt.v.at (by simpa using Nat.lt_of_le_of_lt (Nat.zero_le _) hlt)
          have hca := hAt.at'.le; have hcb := hAt.at'.cap; have hcc := hAt.v.le; have hcd := hAt.v.cap
          rw [List.length_map, List.length_range] at hca hcc
          have hvi := hTw.vb i hlt
          have hsk := hTw.sb k
          have hTn := hTw.next hlt
          rw [hk] at hTn
          have hAt1 := (hAt.setV hg1 hg2 hU1 i hlt (V i - σ k) (fun j => if j = i then V i - σ k else V j) (by simp) (fun j _ hne => if_neg hne)).drew
          have hAt2 := hAt1.setS hU1 hU2 k hk3 0 (upd σ k 0) (fun y => rfl)
          obtain ⟨c0, c1, f1, c4, f4⟩ := hAt.cells i k hlt hk hk3
          obtain ⟨b0, -, -, b4, g4⟩ := hAt1.cells i k hlt hk hk3
          have HA2 := Lib.hid hAt2; have HTN := Lib.hid hTn
          clear hAt hAt1 hAt2 hTw hTn
          generalize hvv : V i = vi at *
          generalize hss : σ k = sk at *
          have hw1 : IntKind.i64.wrap (vi - sk) = vi - sk := by rw [IntKind.wrap_i64]; omega
          have bi0 : (0 : Int) ≤ (i : Int) := by omega
          have bi1 : (i : Int) < (n : Int) := by omega
          have bk0 : (0 : Int) ≤ (k : Int) := by omega
          have bk1 : (k : Int) < 3 := by omega
          go_wp2_with fail
          refine wp_region_Z (S := fun w' => w'.cell? ⟨ga, i, none⟩ = some (.int .i64 (k : Int)) ∧ w'.cell? ⟨gv, i, none⟩ = some (.int .i64 vi) ∧ w'.cell? ⟨U2, k, none⟩ = some (.int .i64 sk) ∧ w'.frozen? ⟨gv, i, none⟩ = false) (fun i => i == 12) (by kernel_rfl) (⟨c0, c1, c4, f1⟩) (fun hHeld => ?_)
          refine wpAnyZ_take (i := 0) (v := .slice (some ⟨gv, 0, none⟩) n cV) rfl (by kernel_rfl) (by kernel_rfl) (by kernel_rfl) (by kernel_rfl) (fun _ _ _ h => h) (Or.inl ⟨by rfl, fun w hSw => by (obtain ⟨e0, e1, e2, e3⟩ := hSw; go_simp)⟩) hHeld ?_
          try simp only [List.getElem_toArray, List.getElem_cons_zero, Act.put, List.setIfInBounds_toArray, List.set_cons_zero, List.set_cons_succ]
          refine wpAnyZ_take (i := 1) (v := .int .i64 (i : Int)) rfl (by kernel_rfl) (by kernel_rfl) (by kernel_rfl) (by kernel_rfl) (fun _ _ _ h => h) (Or.inl ⟨by rfl, fun w hSw => by (obtain ⟨e0, e1, e2, e3⟩ := hSw; go_simp)⟩) hHeld ?_
          try simp only [List.getElem_toArray, List.getElem_cons_succ, List.getElem_cons_zero, Act.put, List.setIfInBounds_toArray, List.set_cons_zero, List.set_cons_succ]
          refine wpAnyZ_take (i := 2) (v := .pointer (some ⟨gv, i, none⟩)) rfl (by kernel_rfl) (by kernel_rfl) (by kernel_rfl) (by kernel_rfl) (fun _ _ _ h => h) (Or.inl ⟨by rfl, fun w hSw => by (obtain ⟨e0, e1, e2, e3⟩ := hSw; go_simp)⟩) hHeld ?_
          try simp only [List.getElem_toArray, List.getElem_cons_succ, List.getElem_cons_zero, Act.put, List.setIfInBounds_toArray, List.set_cons_zero, List.set_cons_succ]
          refine wpAnyZ_take (i := 3) (v := .int .i64 vi) rfl (by kernel_rfl) (by kernel_rfl) (by kernel_rfl) (by kernel_rfl) (fun _ _ _ h => h) (Or.inl ⟨by rfl, fun w hSw => by (obtain ⟨e0, e1, e2, e3⟩ := hSw; go_simp)⟩) hHeld ?_
          try simp only [List.getElem_toArray, List.getElem_cons_succ, List.getElem_cons_zero, Act.put, List.setIfInBounds_toArray, List.set_cons_zero, List.set_cons_succ]
          refine wpAnyZ_take (i := 4) (v := .slice (some ⟨ga, 0, none⟩) n cA) rfl (by kernel_rfl) (by kernel_rfl) (by kernel_rfl) (by kernel_rfl) (fun _ _ _ h => h) (Or.inl ⟨by rfl, fun w hSw => by (obtain ⟨e0, e1, e2, e3⟩ := hSw; go_simp)⟩) hHeld ?_
          try simp only [List.getElem_toArray, List.getElem_cons_succ, List.getElem_cons_zero, Act.put, List.setIfInBounds_toArray, List.set_cons_zero, List.set_cons_succ]
          refine wpAnyZ_take (i := 5) (v := .int .i64 (i : Int)) rfl (by kernel_rfl) (by kernel_rfl) (by kernel_rfl) (by kernel_rfl) (fun _ _ _ h => h) (Or.inl ⟨by rfl, fun w hSw => by (obtain ⟨e0, e1, e2, e3⟩ := hSw; go_simp)⟩) hHeld ?_
          try simp only [List.getElem_toArray, List.getElem_cons_succ, List.getElem_cons_zero, Act.put, List.setIfInBounds_toArray, List.set_cons_zero, List.set_cons_succ]
          refine wpAnyZ_take (i := 6) (v := .pointer (some ⟨ga, i, none⟩)) rfl (by kernel_rfl) (by kernel_rfl) (by kernel_rfl) (by kernel_rfl) (fun _ _ _ h => h) (Or.inl ⟨by rfl, fun w hSw => by (obtain ⟨e0, e1, e2, e3⟩ := hSw; go_simp)⟩) hHeld ?_
          try simp only [List.getElem_toArray, List.getElem_cons_succ, List.getElem_cons_zero, Act.put, List.setIfInBounds_toArray, List.set_cons_zero, List.set_cons_succ]
          refine wpAnyZ_take (i := 7) (v := .int .i64 (k : Int)) rfl (by kernel_rfl) (by kernel_rfl) (by kernel_rfl) (by kernel_rfl) (fun _ _ _ h => h) (Or.inl ⟨by rfl, fun w hSw => by (obtain ⟨e0, e1, e2, e3⟩ := hSw; go_simp)⟩) hHeld ?_
          try simp only [List.getElem_toArray, List.getElem_cons_succ, List.getElem_cons_zero, Act.put, List.setIfInBounds_toArray, List.set_cons_zero, List.set_cons_succ]
          refine wpAnyZ_take (i := 8) (v := .pointer (some ⟨U2, k, none⟩)) rfl (by kernel_rfl) (by kernel_rfl) (by kernel_rfl) (by kernel_rfl) (fun _ _ _ h => h) (Or.inl ⟨by rfl, fun w hSw => by (obtain ⟨e0, e1, e2, e3⟩ := hSw; go_simp)⟩) hHeld ?_
          try simp only [List.getElem_toArray, List.getElem_cons_succ, List.getElem_cons_zero, Act.put, List.setIfInBounds_toArray, List.set_cons_zero, List.set_cons_succ]
          refine wpAnyZ_take (i := 9) (v := .int .i64 sk) rfl (by kernel_rfl) (by kernel_rfl) (by kernel_rfl) (by kernel_rfl) (fun _ _ _ h => h) (Or.inl ⟨by rfl, fun w hSw => by (obtain ⟨e0, e1, e2, e3⟩ := hSw; go_simp)⟩) hHeld ?_
          try simp only [List.getElem_toArray, List.getElem_cons_succ, List.getElem_cons_zero, Act.put, List.setIfInBounds_toArray, List.set_cons_zero, List.set_cons_succ]
          refine wpAnyZ_take (i := 10) (v := .int .i64 (vi - sk)) rfl (by kernel_rfl) (by kernel_rfl) (by kernel_rfl) (by kernel_rfl) (fun _ _ _ h => h) (Or.inl ⟨by rfl, fun w hSw => by (obtain ⟨e0, e1, e2, e3⟩ := hSw; go_simp)⟩) hHeld ?_
          try simp only [List.getElem_toArray, List.getElem_cons_succ, List.getElem_cons_zero, Act.put, List.setIfInBounds_toArray, List.set_cons_zero, List.set_cons_succ]
          refine wpAnyZ_take (i := 11) (v := .pointer (some ⟨gv, i, none⟩)) rfl (by kernel_rfl) (by kernel_rfl) (by kernel_rfl) (by kernel_rfl) (fun _ _ _ h => h) (Or.inl ⟨by rfl, fun w hSw => by (obtain ⟨e0, e1, e2, e3⟩ := hSw; go_simp)⟩) hHeld ?_
          try simp only [List.getElem_toArray, List.getElem_cons_succ, List.getElem_cons_zero, Act.put, List.setIfInBounds_toArray, List.set_cons_zero, List.set_cons_succ]
          refine wpAnyZ_ready (rs := [12]) (by kernel_rfl) (by simp) ?_
          refine AllReadyZ.last rfl rfl (fun Kc hK => ?_) AllReadyZ.nil
          go_simp
          
          refine hK.out _ _ ?_
          clear hK Kc
          try simp only [List.getElem_toArray, List.getElem_cons_succ, List.getElem_cons_zero, Act.put]
          refine wpAnyZ_done (by kernel_rfl) ?_ _
          clear hHeld
          generalize hW5 : (wr.setCell ⟨gv, i, none⟩ (.int .i64 (vi - sk))).drew = W5 at *
          clear c0 c1 f1 c4 f4
          go_wp2_with fail
          exact ⟨⟨i + 1, _, _, by omega, HA2.out, HTN.out, by go_num⟩, by simp only [intOf]; omega⟩
        · obtain rfl : n = i := by omega
          have hz := hTw.zero
          have hvb := hTw.vb
          have hEw := hAt.ext
          have HZ := Lib.hid hz; have HVB := Lib.hid hvb; have HAT1 := Lib.hid hAt
          clear hz hvb hTw hAt hi0 hlt
          have hUs := HAT1.out.s.lt
          go_wp2_with fail
          refine (sc_fit wr ta ba n tc bc below 9 (HB.out.ext hEw) (by omega) (by omega) (by omega) (by omega)).mono ?_
          rintro e w4 ⟨aL, cL, rfl, hL4, x4⟩
          go_wp2_with fail
          refine (sc_fit w4 ta ua n tc uc above 9 (HU.out.ext (hEw.trans x4)) (by omega) (by omega) (by omega) (by omega)).mono ?_
          rintro e w5 ⟨aH, cH, rfl, hH5, x5⟩
          go_wp2_with fail
          refine (r3_Zero _).mono ?_
          intro e w6 hN
          obtain ⟨r0, rfl, hr0, x6⟩ := hN.isCan
          clear hN
          go_upto_region 18 with fail
          obtain ⟨W7, hW7, x7, Z7, A7⟩ := boxes1 w6 55 [.bool r0.s, .slice r0.a r0.k r0.c, .slice r0.b r0.j r0.d]
          rw [show w6.alloc (.cells #[.bool r0.s, .slice r0.a r0.k r0.c, .slice r0.b r0.j r0.d] 55) = W7 from hW7.symm]
          clear hW7
          have hO : Ord5 w U1 U2 wr.heap.size w4.heap.size w5.heap.size w6.heap.size := ⟨hU1, hU2, hUs, x4.size, x5.size, x6.size⟩
          have hz0 : vsum (atQ qs) V (List.range 0) = 0 := by simp [vsum]
          have hSt : ThAt w U1 U2 wr.heap.size w4.heap.size w5.heap.size w6.heap.size n aA aV aL aH cA cV cL cH AT V (fitV below 9) (fitV above 9) σ (vsum (atQ qs) V (List.range 0)) W7 :=
            ⟨HAT1.out.ext' (((x4.trans x5).trans x6).trans x7), hL4.ext ((x5.trans x6).trans x7), hH5.ext (x6.trans x7), r0, A7, by rw [hz0]; exact hr0.ext x7⟩
          have hLF := fun i => fitV_range below 9 (by omega) i
          have hHF := fun i => fitV_range above 9 (by omega) i
          obtain ⟨LF, hLFe⟩ : ∃ LF, LF = fitV below 9 := ⟨_, rfl⟩
          obtain ⟨HF, hHFe⟩ : ∃ HF, HF = fitV above 9 := ⟨_, rfl⟩
          rw [← hLFe] at hSt hLF
          rw [← hHFe] at hSt hHF
          have e1 : (fun j => if j < 0 then V j - LF j else LF j) = LF := by funext j; simp
          have e2 : (fun j => if j < 0 then V j + HF j else HF j) = HF := by funext j; simp
          rw [← e1, ← e2] at hSt
          obtain ⟨U3, hU3⟩ : ∃ U3, U3 = wr.heap.size := ⟨_, rfl⟩
          obtain ⟨U4, hU4⟩ : ∃ U4, U4 = w4.heap.size := ⟨_, rfl⟩
          obtain ⟨U5, hU5⟩ : ∃ U5, U5 = w5.heap.size := ⟨_, rfl⟩
          obtain ⟨Bz, hBz⟩ : ∃ Bz, Bz = w6.heap.size := ⟨_, rfl⟩
          rw [← hU3, ← hU4, ← hU5, ← hBz] at hSt hO
          rw [← hBz]
          have HST := Lib.hid hSt; have HLF := Lib.hid hLF; have HHF := Lib.hid hHF; have HO := Lib.hid hO
          have zr : rsz 0 ≤ 1 := by decide +kernel
          have hSz0 : rsz (vsum (atQ qs) V (List.range 0)) ≤ 1 + 0 * 12 := by rw [hz0]; exact zr
          obtain ⟨o1, o2, o3, o4, o5, o6⟩ := hO
          clear hSt hLF hHF e1 e2 hLFe hHFe hU3 hU4 hU5 hBz hL4 hH5 hr0 A7 Z7 x4 x5 x6 x7 hUs HAT1 hz0
          go_wp2_with fail
          go_loopw [19] (fun ii wq => ∃ i : Nat, i ≤ n ∧ ThAt w U1 U2 U3 U4 U5 Bz n aA aV aL aH cA cV cL cH AT V (fun j => if j < i then V j - LF j else LF j) (fun j => if j < i then V j + HF j else HF j) σ (vsum (atQ qs) V (List.range i)) wq ∧ rsz (vsum (atQ qs) V (List.range i)) ≤ 1 + i * 12 ∧ ii = .int .i64 i) (fun ii _ => n - (intOf ii).toNat)
          case atStart => exact ⟨0, Nat.zero_le _, HST.out, hSz0, rfl⟩
          case round =>
            obtain ⟨i, hi0, hAt, hSz, rfl⟩ := hrel
            clear HST hSz0
            by_cases hlt : i < n
            · obtain ⟨gv, rfl, -, -⟩ := hAt.base.v.at (by simpa using Nat.lt_of_le_of_lt (Nat.zero_le _) hlt)
              obtain ⟨gl, rfl, hg1, hg2⟩ := hAt.lo.at (by simpa using Nat.lt_of_le_of_lt (Nat.zero_le _) hlt)
              obtain ⟨gh, rfl, hg3, hg4⟩ := hAt.hi.at (by simpa using Nat.lt_of_le_of_lt (Nat.zero_le _) hlt)
              have ha1 := hAt.base.v.le; have ha2 := hAt.base.v.cap; have ha3 := hAt.lo.le; have ha4 := hAt.lo.cap; have ha5 := hAt.hi.le; have ha6 := hAt.hi.cap
              rw [List.length_map, List.length_range] at ha1 ha3 ha5
              have hvi := HVB.out i hlt
              have hlf := HLF.out i
              have hhf := HHF.out i
              have hA1 := hAt.setL HO.out hg1 hg2 i hlt (V i - LF i) (fun j => if j < i + 1 then V j - LF j else LF j) (by simp) (fun j _ hne => by
                by_cases h1 : j < i
                · rw [if_pos h1, if_pos (by omega)]
                · rw [if_neg h1, if_neg (by omega)])
              have hA2 := (hA1.setH HO.out hg3 hg4 i hlt (V i + HF i) (fun j => if j < i + 1 then V j + HF j else HF j) (by simp) (fun j _ hne => by
                by_cases h1 : j < i
                · rw [if_pos h1, if_pos (by omega)]
                · rw [if_neg h1, if_neg (by omega)])).ext' (Ext.refl _).drew
              have hA1d := hA1.ext' (Ext.refl _).drew
              obtain ⟨c1, c2, f2, c3, f3⟩ := hAt.cells i hlt
              obtain ⟨m1, -, k2, m3, k3⟩ := hA1d.cells i hlt
              simp only [Nat.lt_irrefl, if_false] at c2 c3 m3
              have HA2 := Lib.hid hA2
              clear hAt hA1 hA2 hA1d
              generalize hvv : V i = vi at *
              generalize LF i = lf at *
              generalize HF i = hf at *
              have hw1 : IntKind.i64.wrap (vi - lf) = vi - lf := by rw [IntKind.wrap_i64]; omega
              have hw2 : IntKind.i64.wrap (vi + hf) = vi + hf := by rw [IntKind.wrap_i64]; omega
              have bi0 : (0 : Int) ≤ (i : Int) := by omega
              have bi1 : (i : Int) < (n : Int) := by omega
              go_wp2_with fail
              refine wp_region_Z (S := fun w' => w'.cell? ⟨gv, i, none⟩ = some (.int .i64 vi) ∧ w'.cell? ⟨gh, i, none⟩ = some (.int .i64 hf) ∧ w'.frozen? ⟨gl, i, none⟩ = false ∧ w'.frozen? ⟨gh, i, none⟩ = false) (fun i => i == 25) (by kernel_rfl) (⟨c1, c3, f2, f3⟩) (fun hHeld => ?_)
              refine wpAnyZ_take (i := 0) (v := .slice (some ⟨gl, 0, none⟩) n cL) rfl (by kernel_rfl) (by kernel_rfl) (by kernel_rfl) (by kernel_rfl) (fun _ _ _ h => h) (Or.inl ⟨by rfl, fun w hSw => by (obtain ⟨e0, e1, e2, e3⟩ := hSw; go_simp)⟩) hHeld ?_
              try simp only [List.getElem_toArray, List.getElem_cons_zero, Act.put, List.setIfInBounds_toArray, List.set_cons_zero, List.set_cons_succ]
              refine wpAnyZ_take (i := 1) (v := .int .i64 (i : Int)) rfl (by kernel_rfl) (by kernel_rfl) (by kernel_rfl) (by kernel_rfl) (fun _ _ _ h => h) (Or.inl ⟨by rfl, fun w hSw => by (obtain ⟨e0, e1, e2, e3⟩ := hSw; go_simp)⟩) hHeld ?_
              try simp only [List.getElem_toArray, List.getElem_cons_succ, List.getElem_cons_zero, Act.put, List.setIfInBounds_toArray, List.set_cons_zero, List.set_cons_succ]
              refine wpAnyZ_take (i := 4) (v := .slice (some ⟨gv, 0, none⟩) n cV) rfl (by kernel_rfl) (by kernel_rfl) (by kernel_rfl) (by kernel_rfl) (fun _ _ _ h => h) (Or.inl ⟨by rfl, fun w hSw => by (obtain ⟨e0, e1, e2, e3⟩ := hSw; go_simp)⟩) hHeld ?_
              try simp only [List.getElem_toArray, List.getElem_cons_succ, List.getElem_cons_zero, Act.put, List.setIfInBounds_toArray, List.set_cons_zero, List.set_cons_succ]
              refine wpAnyZ_take (i := 5) (v := .int .i64 (i : Int)) rfl (by kernel_rfl) (by kernel_rfl) (by kernel_rfl) (by kernel_rfl) (fun _ _ _ h => h) (Or.inl ⟨by rfl, fun w hSw => by (obtain ⟨e0, e1, e2, e3⟩ := hSw; go_simp)⟩) hHeld ?_
              try simp only [List.getElem_toArray, List.getElem_cons_succ, List.getElem_cons_zero, Act.put, List.setIfInBounds_toArray, List.set_cons_zero, List.set_cons_succ]
              refine wpAnyZ_take (i := 6) (v := .pointer (some ⟨gv, i, none⟩)) rfl (by kernel_rfl) (by kernel_rfl) (by kernel_rfl) (by kernel_rfl) (fun _ _ _ h => h) (Or.inl ⟨by rfl, fun w hSw => by (obtain ⟨e0, e1, e2, e3⟩ := hSw; go_simp)⟩) hHeld ?_
              try simp only [List.getElem_toArray, List.getElem_cons_succ, List.getElem_cons_zero, Act.put, List.setIfInBounds_toArray, List.set_cons_zero, List.set_cons_succ]
              refine wpAnyZ_take (i := 7) (v := .int .i64 vi) rfl (by kernel_rfl) (by kernel_rfl) (by kernel_rfl) (by kernel_rfl) (fun _ _ _ h => h) (Or.inl ⟨by rfl, fun w hSw => by (obtain ⟨e0, e1, e2, e3⟩ := hSw; go_simp)⟩) hHeld ?_
              try simp only [List.getElem_toArray, List.getElem_cons_succ, List.getElem_cons_zero, Act.put, List.setIfInBounds_toArray, List.set_cons_zero, List.set_cons_succ]
              refine wpAnyZ_take (i := 8) (v := .slice (some ⟨gl, 0, none⟩) n cL) rfl (by kernel_rfl) (by kernel_rfl) (by kernel_rfl) (by kernel_rfl) (fun _ _ _ h => h) (Or.inl ⟨by rfl, fun w hSw => by (obtain ⟨e0, e1, e2, e3⟩ := hSw; go_simp)⟩) hHeld ?_
              try simp only [List.getElem_toArray, List.getElem_cons_succ, List.getElem_cons_zero, Act.put, List.setIfInBounds_toArray, List.set_cons_zero, List.set_cons_succ]
              refine wpAnyZ_take (i := 9) (v := .int .i64 (i : Int)) rfl (by kernel_rfl) (by kernel_rfl) (by kernel_rfl) (by kernel_rfl) (fun _ _ _ h => h) (Or.inl ⟨by rfl, fun w hSw => by (obtain ⟨e0, e1, e2, e3⟩ := hSw; go_simp)⟩) hHeld ?_
              try simp only [List.getElem_toArray, List.getElem_cons_succ, List.getElem_cons_zero, Act.put, List.setIfInBounds_toArray, List.set_cons_zero, List.set_cons_succ]
              refine wpAnyZ_take (i := 10) (v := .pointer (some ⟨gl, i, none⟩)) rfl (by kernel_rfl) (by kernel_rfl) (by kernel_rfl) (by kernel_rfl) (fun _ _ _ h => h) (Or.inl ⟨by rfl, fun w hSw => by (obtain ⟨e0, e1, e2, e3⟩ := hSw; go_simp)⟩) hHeld ?_
              try simp only [List.getElem_toArray, List.getElem_cons_succ, List.getElem_cons_zero, Act.put, List.setIfInBounds_toArray, List.set_cons_zero, List.set_cons_succ]
              refine wpAnyZ_take (i := 13) (v := .slice (some ⟨gv, 0, none⟩) n cV) rfl (by kernel_rfl) (by kernel_rfl) (by kernel_rfl) (by kernel_rfl) (fun _ _ _ h => h) (Or.inl ⟨by rfl, fun w hSw => by (obtain ⟨e0, e1, e2, e3⟩ := hSw; go_simp)⟩) hHeld ?_
              try simp only [List.getElem_toArray, List.getElem_cons_succ, List.getElem_cons_zero, Act.put, List.setIfInBounds_toArray, List.set_cons_zero, List.set_cons_succ]
              refine wpAnyZ_take (i := 14) (v := .int .i64 (i : Int)) rfl (by kernel_rfl) (by kernel_rfl) (by kernel_rfl) (by kernel_rfl) (fun _ _ _ h => h) (Or.inl ⟨by rfl, fun w hSw => by (obtain ⟨e0, e1, e2, e3⟩ := hSw; go_simp)⟩) hHeld ?_
              try simp only [List.getElem_toArray, List.getElem_cons_succ, List.getElem_cons_zero, Act.put, List.setIfInBounds_toArray, List.set_cons_zero, List.set_cons_succ]
              refine wpAnyZ_take (i := 15) (v := .pointer (some ⟨gv, i, none⟩)) rfl (by kernel_rfl) (by kernel_rfl) (by kernel_rfl) (by kernel_rfl) (fun _ _ _ h => h) (Or.inl ⟨by rfl, fun w hSw => by (obtain ⟨e0, e1, e2, e3⟩ := hSw; go_simp)⟩) hHeld ?_
              try simp only [List.getElem_toArray, List.getElem_cons_succ, List.getElem_cons_zero, Act.put, List.setIfInBounds_toArray, List.set_cons_zero, List.set_cons_succ]
              refine wpAnyZ_take (i := 16) (v := .int .i64 vi) rfl (by kernel_rfl) (by kernel_rfl) (by kernel_rfl) (by kernel_rfl) (fun _ _ _ h => h) (Or.inl ⟨by rfl, fun w hSw => by (obtain ⟨e0, e1, e2, e3⟩ := hSw; go_simp)⟩) hHeld ?_
              try simp only [List.getElem_toArray, List.getElem_cons_succ, List.getElem_cons_zero, Act.put, List.setIfInBounds_toArray, List.set_cons_zero, List.set_cons_succ]
              refine wpAnyZ_take (i := 17) (v := .slice (some ⟨gh, 0, none⟩) n cH) rfl (by kernel_rfl) (by kernel_rfl) (by kernel_rfl) (by kernel_rfl) (fun _ _ _ h => h) (Or.inl ⟨by rfl, fun w hSw => by (obtain ⟨e0, e1, e2, e3⟩ := hSw; go_simp)⟩) hHeld ?_
              try simp only [List.getElem_toArray, List.getElem_cons_succ, List.getElem_cons_zero, Act.put, List.setIfInBounds_toArray, List.set_cons_zero, List.set_cons_succ]
              refine wpAnyZ_take (i := 18) (v := .int .i64 (i : Int)) rfl (by kernel_rfl) (by kernel_rfl) (by kernel_rfl) (by kernel_rfl) (fun _ _ _ h => h) (Or.inl ⟨by rfl, fun w hSw => by (obtain ⟨e0, e1, e2, e3⟩ := hSw; go_simp)⟩) hHeld ?_
              try simp only [List.getElem_toArray, List.getElem_cons_succ, List.getElem_cons_zero, Act.put, List.setIfInBounds_toArray, List.set_cons_zero, List.set_cons_succ]
              refine wpAnyZ_take (i := 19) (v := .pointer (some ⟨gh, i, none⟩)) rfl (by kernel_rfl) (by kernel_rfl) (by kernel_rfl) (by kernel_rfl) (fun _ _ _ h => h) (Or.inl ⟨by rfl, fun w hSw => by (obtain ⟨e0, e1, e2, e3⟩ := hSw; go_simp)⟩) hHeld ?_
              try simp only [List.getElem_toArray, List.getElem_cons_succ, List.getElem_cons_zero, Act.put, List.setIfInBounds_toArray, List.set_cons_zero, List.set_cons_succ]
              refine wpAnyZ_take (i := 20) (v := .int .i64 hf) rfl (by kernel_rfl) (by kernel_rfl) (by kernel_rfl) (by kernel_rfl) (fun _ _ _ h => h) (Or.inl ⟨by rfl, fun w hSw => by (obtain ⟨e0, e1, e2, e3⟩ := hSw; go_simp)⟩) hHeld ?_
              try simp only [List.getElem_toArray, List.getElem_cons_succ, List.getElem_cons_zero, Act.put, List.setIfInBounds_toArray, List.set_cons_zero, List.set_cons_succ]
              refine wpAnyZ_take (i := 21) (v := .int .i64 (vi + hf)) rfl (by kernel_rfl) (by kernel_rfl) (by kernel_rfl) (by kernel_rfl) (fun _ _ _ h => h) (Or.inl ⟨by rfl, fun w hSw => by (obtain ⟨e0, e1, e2, e3⟩ := hSw; go_simp)⟩) hHeld ?_
              try simp only [List.getElem_toArray, List.getElem_cons_succ, List.getElem_cons_zero, Act.put, List.setIfInBounds_toArray, List.set_cons_zero, List.set_cons_succ]
              refine wpAnyZ_take (i := 2) (v := .slice (some ⟨gh, 0, none⟩) n cH) rfl (by kernel_rfl) (by kernel_rfl) (by kernel_rfl) (by kernel_rfl) (fun _ _ _ h => h) (Or.inl ⟨by rfl, fun w hSw => by (obtain ⟨e0, e1, e2, e3⟩ := hSw; go_simp)⟩) hHeld ?_
              try simp only [List.getElem_toArray, List.getElem_cons_succ, List.getElem_cons_zero, Act.put, List.setIfInBounds_toArray, List.set_cons_zero, List.set_cons_succ]
              refine wpAnyZ_take (i := 3) (v := .int .i64 (i : Int)) rfl (by kernel_rfl) (by kernel_rfl) (by kernel_rfl) (by kernel_rfl) (fun _ _ _ h => h) (Or.inl ⟨by rfl, fun w hSw => by (obtain ⟨e0, e1, e2, e3⟩ := hSw; go_simp)⟩) hHeld ?_
              try simp only [List.getElem_toArray, List.getElem_cons_succ, List.getElem_cons_zero, Act.put, List.setIfInBounds_toArray, List.set_cons_zero, List.set_cons_succ]
              refine wpAnyZ_ready (rs := [11]) (by kernel_rfl) (by simp) ?_
              refine AllReadyZ.cons rfl (fun Kc hK => ?_) AllReadyZ.nil
              go_simp
              
              refine hK.out _ _ (⟨c1, c3, f2, f3⟩) (fun hHeld => ?_)
              clear hK Kc
              try simp only [List.getElem_toArray, List.getElem_cons_succ, List.getElem_cons_zero, Act.put, List.setIfInBounds_toArray, List.set_cons_zero, List.set_cons_succ]
              refine wpAnyZ_take (i := 12) (v := .int .i64 (vi - lf)) rfl (by kernel_rfl) (by kernel_rfl) (by kernel_rfl) (by kernel_rfl) (fun _ _ _ h => h) (Or.inl ⟨by rfl, fun w hSw => by (obtain ⟨e0, e1, e2, e3⟩ := hSw; go_simp)⟩) hHeld ?_
              try simp only [List.getElem_toArray, List.getElem_cons_succ, List.getElem_cons_zero, Act.put, List.setIfInBounds_toArray, List.set_cons_zero, List.set_cons_succ]
              refine wpAnyZ_take (i := 22) (v := .pointer (some ⟨gl, i, none⟩)) rfl (by kernel_rfl) (by kernel_rfl) (by kernel_rfl) (by kernel_rfl) (fun _ _ _ h => h) (Or.inl ⟨by rfl, fun w hSw => by (obtain ⟨e0, e1, e2, e3⟩ := hSw; go_simp)⟩) hHeld ?_
              try simp only [List.getElem_toArray, List.getElem_cons_succ, List.getElem_cons_zero, Act.put, List.setIfInBounds_toArray, List.set_cons_zero, List.set_cons_succ]
              refine wpAnyZ_ready (rs := [23]) (by kernel_rfl) (by simp) ?_
              refine AllReadyZ.cons rfl (fun Kc hK => ?_) AllReadyZ.nil
              go_simp
              
              refine hK.out _ _ (⟨m1, m3, k2, k3⟩) (fun hHeld => ?_)
              clear hK Kc
              try simp only [List.getElem_toArray, List.getElem_cons_succ, List.getElem_cons_zero, Act.put]
              refine wpAnyZ_take (i := 24) (v := .pointer (some ⟨gh, i, none⟩)) rfl (by kernel_rfl) (by kernel_rfl) (by kernel_rfl) (by kernel_rfl) (fun _ _ _ h => h) (Or.inl ⟨by rfl, fun w hSw => by (obtain ⟨e0, e1, e2, e3⟩ := hSw; go_simp)⟩) hHeld ?_
              try simp only [List.getElem_toArray, List.getElem_cons_succ, List.getElem_cons_zero, Act.put, List.setIfInBounds_toArray, List.set_cons_zero, List.set_cons_succ]
              refine wpAnyZ_ready (rs := [25]) (by kernel_rfl) (by simp) ?_
              refine AllReadyZ.last rfl rfl (fun Kc hK => ?_) AllReadyZ.nil
              go_simp
              
              refine hK.out _ _ ?_
              clear hK Kc
              try simp only [List.getElem_toArray, List.getElem_cons_succ, List.getElem_cons_zero, Act.put]
              refine wpAnyZ_done (by kernel_rfl) ?_ _
              clear hHeld
              generalize hW8 : ((wr.setCell ⟨gl, i, none⟩ (.int .i64 (vi - lf))).setCell ⟨gh, i, none⟩ (.int .i64 (vi + hf))).drew = W8 at *
              clear c1 c2 f2 c3 f3 m1 k2 m3 k3 hW8
              have hA8 := HA2.out
              obtain ⟨cv8, -⟩ := hA8.cells i hlt
              rw [hvv] at cv8
              obtain ⟨r, hr1, hr2⟩ := hA8.sum
              have hE8 := hA8.base.ext
              obtain ⟨bt, ot, rfl, t0, t1, t2⟩ := (HR.out.ext hE8).cell i (by have := HNN.out; omega)
              obtain ⟨nq, mq, g1, g2, gq, gl1, gl2⟩ := (HR.out.ext hE8).num i (by have := HNN.out; omega)
              have hqz := ((HR.out.ext hE8).num i (by have := HNN.out; omega)).rsz
              obtain ⟨ks1, ks2⟩ := HS.out i (by have := HNN.out; omega)
              have eQ : atQ qs i = qs[i]'(by rw [HR.out.len]; have := HNN.out; omega) := atQ_eq (by rw [HR.out.len]; have := HNN.out; omega)
              have hvs := vsum_range_succ (atQ qs) V i
              rw [eQ, hvv] at hvs
              generalize qs[i]'(by rw [HR.out.len]; have := HNN.out; omega) = qi at *
              generalize rs[i]'(by have := HNN.out; omega) = y at *
              generalize hSS : vsum (atQ qs) V (List.range i) = S at *
              have hvz : rsz ((vi : Int) : Rat) ≤ 2 := len_i64 (by omega) (by omega)
              have hi30 : i * 12 ≤ 30 * 12 := Nat.mul_le_mul_right _ (by omega)
              have hMu : ∀ U, Ext W8 U → ∀ (r' : RVal) (B : Nat), IsCan U r' ((vi : Int) : Rat) B → Calls Tryz.prog 31 #[.agg #[.bool y.s, .slice y.a y.k y.c, .slice y.b y.j y.d], .agg #[.bool r'.s, .slice r'.a r'.k r'.c, .slice r'.b r'.j r'.d]] U (NewRat (qi * ((vi : Int) : Rat)) U) := by
                intro U hU r' B hr'
                have hs := hr'.short hvz
                have h5 := r3_Mul U y.s _ _ _ _ _ _ _ _ (g1.ext hU) (g2.ext hU) r'.s _ _ _ _ _ _ _ _ hr'.num hr'.den (by omega) (by omega) (by omega) (by omega)
                rw [← gq, hr'.s, sgn_num, Rat.mkRat_self] at h5
                rw [hr'.s]
                exact h5
              have hmz : rsz (qi * ((vi : Int) : Rat)) ≤ 10 := by have := rsz_mul qi ((vi : Int) : Rat); omega
              have hAd : ∀ U, Ext W8 U → ∀ (r' : RVal) (B : Nat), IsCan U r' (qi * ((vi : Int) : Rat)) B → Calls Tryz.prog 30 #[.agg #[.bool r.s, .slice r.a r.k r.c, .slice r.b r.j r.d], .agg #[.bool r'.s, .slice r'.a r'.k r'.c, .slice r'.b r'.j r'.d]] U (NewRat (S + qi * ((vi : Int) : Rat)) U) := by
                intro U hU r' B hr'
                have hrr := hr2.ext hU
                have s1 := hrr.short hSz
                have s2 := hr'.short hmz
                have h5 := r3_Add U r.s _ _ _ _ _ _ _ _ hrr.num hrr.den r'.s _ _ _ _ _ _ _ _ hr'.num hr'.den (by omega) (by omega) (by omega) (by omega)
                rw [hrr.s, sgn_num, Rat.mkRat_self, hr'.s, sgn_num, Rat.mkRat_self] at h5
                rw [hr'.s, hrr.s]
                exact h5
              have hsz9 : rsz (S + qi * ((vi : Int) : Rat)) ≤ 1 + (i + 1) * 12 := by have := rsz_add S (qi * ((vi : Int) : Rat)); rw [Nat.succ_mul]; omega
              have hKK : ∀ U, Ext W8 U → U.cell? ⟨Bz, 0, none⟩ = some (.bool r.s) ∧ U.cell? ⟨Bz, 1, none⟩ = some (.slice r.a r.k r.c) ∧ U.cell? ⟨Bz, 2, none⟩ = some (.slice r.b r.j r.d) ∧ U.frozen? ⟨Bz, 0, none⟩ = false ∧ U.frozen? ⟨Bz, 1, none⟩ = false ∧ U.frozen? ⟨Bz, 2, none⟩ = false ∧ U.cell? ⟨bt, ot + i * 3, none⟩ = some (.bool y.s) ∧ U.cell? ⟨bt, ot + i * 3 + 1, none⟩ = some (.slice y.a y.k y.c) ∧ U.cell? ⟨bt, ot + i * 3 + 2, none⟩ = some (.slice y.b y.j y.d) ∧ U.cell? ⟨gv, i, none⟩ = some (.int .i64 vi) := fun U hU => by
                obtain ⟨p0, p1, p2, p3, p4, p5⟩ := box3 hr1 hU
                exact ⟨p0, p1, p2, p3, p4, p5, cell_ext hU t0, cell_ext hU t1, cell_ext hU t2, cell_ext hU cv8⟩
              have hBl := hr1.lt
              have HMu := Lib.hid hMu; have HAd := Lib.hid hAd; have HKK := Lib.hid hKK; have HA8 := Lib.hid hA8; have HVS := Lib.hid hvs; have HSZ := Lib.hid hsz9
              have HFI := fun U => r3_FromInt U vi (by omega) (by omega)
              have y0 : Ext W8 W8.drew := (Ext.refl _).drew
              clear hMu hAd hKK hA8 hvs hsz9 HA2 hr1 hr2 g1 g2 gq eQ cv8 t0 t1 t2 hmz hvz hqz
              go_wp2_with fail
              refine wp_region_Z (S := fun w' => w'.cell? ⟨Bz, 0, none⟩ = some (.bool r.s) ∧ w'.cell? ⟨Bz, 1, none⟩ = some (.slice r.a r.k r.c) ∧ w'.cell? ⟨Bz, 2, none⟩ = some (.slice r.b r.j r.d) ∧ w'.frozen? ⟨Bz, 0, none⟩ = false ∧ w'.frozen? ⟨Bz, 1, none⟩ = false ∧ w'.frozen? ⟨Bz, 2, none⟩ = false ∧ w'.cell? ⟨bt, ot + i * 3, none⟩ = some (.bool y.s) ∧ w'.cell? ⟨bt, ot + i * 3 + 1, none⟩ = some (.slice y.a y.k y.c) ∧ w'.cell? ⟨bt, ot + i * 3 + 2, none⟩ = some (.slice y.b y.j y.d) ∧ w'.cell? ⟨gv, i, none⟩ = some (.int .i64 vi)) (fun i => i == 12) (by kernel_rfl) (HKK.out _ y0) (fun hHeld => ?_)
              refine wpAnyZ_take (i := 0) (v := .agg #[.bool r.s, .slice r.a r.k r.c, .slice r.b r.j r.d]) rfl (by kernel_rfl) (by kernel_rfl) (by kernel_rfl) (by kernel_rfl) (fun _ _ _ h => h) (Or.inl ⟨by rfl, fun w hSw => by (obtain ⟨e0, e1, e2, e3, e4, e5, e6, e7, e8, e9⟩ := hSw; go_simp)⟩) hHeld ?_
              try simp only [List.getElem_toArray, List.getElem_cons_zero, Act.put, List.setIfInBounds_toArray, List.set_cons_zero, List.set_cons_succ]
              refine wpAnyZ_take (i := 1) (v := .slice (some ⟨bt, ot, none⟩) n tc) rfl (by kernel_rfl) (by kernel_rfl) (by kernel_rfl) (by kernel_rfl) (fun _ _ _ h => h) (Or.inl ⟨by rfl, fun w hSw => by (obtain ⟨e0, e1, e2, e3, e4, e5, e6, e7, e8, e9⟩ := hSw; go_simp)⟩) hHeld ?_
              try simp only [List.getElem_toArray, List.getElem_cons_succ, List.getElem_cons_zero, Act.put, List.setIfInBounds_toArray, List.set_cons_zero, List.set_cons_succ]
              refine wpAnyZ_take (i := 2) (v := .int .i64 (i : Int)) rfl (by kernel_rfl) (by kernel_rfl) (by kernel_rfl) (by kernel_rfl) (fun _ _ _ h => h) (Or.inl ⟨by rfl, fun w hSw => by (obtain ⟨e0, e1, e2, e3, e4, e5, e6, e7, e8, e9⟩ := hSw; go_simp)⟩) hHeld ?_
              try simp only [List.getElem_toArray, List.getElem_cons_succ, List.getElem_cons_zero, Act.put, List.setIfInBounds_toArray, List.set_cons_zero, List.set_cons_succ]
              refine wpAnyZ_take (i := 3) (v := .pointer (some ⟨bt, ot + i * 3, none⟩)) rfl (by kernel_rfl) (by kernel_rfl) (by kernel_rfl) (by kernel_rfl) (fun _ _ _ h => h) (Or.inl ⟨by rfl, fun w hSw => by (obtain ⟨e0, e1, e2, e3, e4, e5, e6, e7, e8, e9⟩ := hSw; go_simp)⟩) hHeld ?_
              try simp only [List.getElem_toArray, List.getElem_cons_succ, List.getElem_cons_zero, Act.put, List.setIfInBounds_toArray, List.set_cons_zero, List.set_cons_succ]
              refine wpAnyZ_take (i := 4) (v := .agg #[.bool y.s, .slice y.a y.k y.c, .slice y.b y.j y.d]) rfl (by kernel_rfl) (by kernel_rfl) (by kernel_rfl) (by kernel_rfl) (fun _ _ _ h => h) (Or.inl ⟨by rfl, fun w hSw => by (obtain ⟨e0, e1, e2, e3, e4, e5, e6, e7, e8, e9⟩ := hSw; go_simp)⟩) hHeld ?_
              try simp only [List.getElem_toArray, List.getElem_cons_succ, List.getElem_cons_zero, Act.put, List.setIfInBounds_toArray, List.set_cons_zero, List.set_cons_succ]
              refine wpAnyZ_take (i := 5) (v := .slice (some ⟨gv, 0, none⟩) n cV) rfl (by kernel_rfl) (by kernel_rfl) (by kernel_rfl) (by kernel_rfl) (fun _ _ _ h => h) (Or.inl ⟨by rfl, fun w hSw => by (obtain ⟨e0, e1, e2, e3, e4, e5, e6, e7, e8, e9⟩ := hSw; go_simp)⟩) hHeld ?_
              try simp only [List.getElem_toArray, List.getElem_cons_succ, List.getElem_cons_zero, Act.put, List.setIfInBounds_toArray, List.set_cons_zero, List.set_cons_succ]
              refine wpAnyZ_take (i := 6) (v := .int .i64 (i : Int)) rfl (by kernel_rfl) (by kernel_rfl) (by kernel_rfl) (by kernel_rfl) (fun _ _ _ h => h) (Or.inl ⟨by rfl, fun w hSw => by (obtain ⟨e0, e1, e2, e3, e4, e5, e6, e7, e8, e9⟩ := hSw; go_simp)⟩) hHeld ?_
              try simp only [List.getElem_toArray, List.getElem_cons_succ, List.getElem_cons_zero, Act.put, List.setIfInBounds_toArray, List.set_cons_zero, List.set_cons_succ]
              refine wpAnyZ_take (i := 7) (v := .pointer (some ⟨gv, i, none⟩)) rfl (by kernel_rfl) (by kernel_rfl) (by kernel_rfl) (by kernel_rfl) (fun _ _ _ h => h) (Or.inl ⟨by rfl, fun w hSw => by (obtain ⟨e0, e1, e2, e3, e4, e5, e6, e7, e8, e9⟩ := hSw; go_simp)⟩) hHeld ?_
              try simp only [List.getElem_toArray, List.getElem_cons_succ, List.getElem_cons_zero, Act.put, List.setIfInBounds_toArray, List.set_cons_zero, List.set_cons_succ]
              refine wpAnyZ_take (i := 8) (v := .int .i64 vi) rfl (by kernel_rfl) (by kernel_rfl) (by kernel_rfl) (by kernel_rfl) (fun _ _ _ h => h) (Or.inl ⟨by rfl, fun w hSw => by (obtain ⟨e0, e1, e2, e3, e4, e5, e6, e7, e8, e9⟩ := hSw; go_simp)⟩) hHeld ?_
              try simp only [List.getElem_toArray, List.getElem_cons_succ, List.getElem_cons_zero, Act.put, List.setIfInBounds_toArray, List.set_cons_zero, List.set_cons_succ]
              refine wpAnyZ_ready (rs := [9]) (by kernel_rfl) (by simp) ?_
              refine AllReadyZ.cons rfl (fun Kc hK => ?_) AllReadyZ.nil
              go_simp
              refine (HFI _).mono ?_
              intro e z1 hN
              obtain ⟨q1, rfl, hq1, x1⟩ := hN.isCan
              clear hN
              have y1 := y0.trans x1
              refine hK.out _ _ (HKK.out _ y1) (fun hHeld => ?_)
              clear hK Kc
              try simp only [List.getElem_toArray, List.getElem_cons_succ, List.getElem_cons_zero, Act.put, List.setIfInBounds_toArray, List.set_cons_zero, List.set_cons_succ]
              refine wpAnyZ_ready (rs := [10]) (by kernel_rfl) (by simp) ?_
              refine AllReadyZ.cons rfl (fun Kc hK => ?_) AllReadyZ.nil
              go_simp
              refine (HMu.out _ y1 _ _ hq1).mono ?_
              intro e z2 hN
              obtain ⟨q2, rfl, hq2, x2⟩ := hN.isCan
              clear hN
              have y2 := y1.trans x2
              refine hK.out _ _ (HKK.out _ y2) (fun hHeld => ?_)
              clear hK Kc
              try simp only [List.getElem_toArray, List.getElem_cons_succ, List.getElem_cons_zero, Act.put, List.setIfInBounds_toArray, List.set_cons_zero, List.set_cons_succ]
              refine wpAnyZ_ready (rs := [11]) (by kernel_rfl) (by simp) ?_
              refine AllReadyZ.cons rfl (fun Kc hK => ?_) AllReadyZ.nil
              go_simp
              refine (HAd.out _ y2 _ _ hq2).mono ?_
              intro e z3 hN
              obtain ⟨q3, rfl, hq3, x3⟩ := hN.isCan
              clear hN
              have y3 := y2.trans x3
              refine hK.out _ _ (HKK.out _ y3) (fun hHeld => ?_)
              clear hK Kc
              try simp only [List.getElem_toArray, List.getElem_cons_succ, List.getElem_cons_zero, Act.put, List.setIfInBounds_toArray, List.set_cons_zero, List.set_cons_succ]
              obtain ⟨e0, e1, e2, e3, e4, e5, e6, e7, e8, e9⟩ := HKK.out _ y3
              refine wpAnyZ_ready (rs := [12]) (by kernel_rfl) (by simp) ?_
              refine AllReadyZ.last rfl rfl (fun Kc hK => ?_) AllReadyZ.nil
              go_simp
              
              refine hK.out _ _ ?_
              clear hK Kc
              try simp only [List.getElem_toArray, List.getElem_cons_succ, List.getElem_cons_zero, Act.put]
              refine wpAnyZ_done (by kernel_rfl) ?_ _
              clear hHeld e0 e1 e2 e3 e4 e5 e6 e7 e8 e9
              have hb3 : Bz < z2.heap.size := by have := y2.size; omega
              have hF9 := (HA8.out.ext' y3).setR HO.out hq3 hb3
              have HF9 := Lib.hid hF9
              clear hF9 hq3
              go_wp2_with fail
              exact ⟨⟨i + 1, by omega, by rw [HVS.out]; exact HF9.out, by rw [HVS.out]; exact HSZ.out, by go_num⟩, by simp only [intOf]; omega⟩
            · obtain rfl : n = i := by omega
              have hn' := HNN.out
              have hE9 := hAt.base.ext
              obtain ⟨LO, hLO⟩ : ∃ LO : Nat → Int, LO = fun j => if j < n then V j - LF j else LF j := ⟨_, rfl⟩
              obtain ⟨HG, hHG⟩ : ∃ HG : Nat → Int, HG = fun j => if j < n then V j + HF j else HF j := ⟨_, rfl⟩
              rw [← hLO, ← hHG] at hAt
              have eL : ∀ j, j < n → LO j = V j - LF j := fun j hj => by rw [hLO]; exact if_pos hj
              have eH : ∀ j, j < n → HG j = V j + HF j := fun j hj => by rw [hHG]; exact if_pos hj
              have gL : ∀ j, j < n → at0 ((List.range n).map LO) j = V j - LF j := fun j hj => by rw [at0_map n j _ hj, eL j hj]
              have gH : ∀ j, j < n → at0 ((List.range n).map HG) j = V j + HF j := fun j hj => by rw [at0_map n j _ hj, eH j hj]
              have gA : ∀ j, j < n → at0 ((List.range n).map AT) j = AT j := fun j hj => at0_map n j _ hj
              have hIn : Inside n (at0 ((List.range n).map AT)) V (at0 ((List.range n).map LO)) (at0 ((List.range n).map HG)) := ⟨fun j hj => by rw [gL j hj, gH j hj]; have := HLF.out j; have := HHF.out j; omega, fun k => by rw [ksum_congr _ V AT V k (List.range n) (fun _ _ => rfl) (fun j hj => gA j (List.mem_range.1 hj))]; exact HZ.out k⟩
              have hBx : BoxOk (at0 ((List.range n).map LO)) (at0 ((List.range n).map HG)) n := fun j hj => by rw [gL j hj, gH j hj]; have := HVB.out j hj; have := HLF.out j; have := HHF.out j; omega
              have h3 : ∀ j, j < n → 0 ≤ at0 ((List.range n).map AT) j ∧ at0 ((List.range n).map AT) j < 3 := fun j hj => by rw [gA j hj]; obtain ⟨k, h1, h2⟩ := HAT.out j; omega
              have iL : IntIn wr aL cL ((List.range n).map LO) := hAt.lo.intIn (fun j hj => by
                have hj' : j < n := by simpa using hj
                rw [List.getElem_map, List.getElem_range, eL j hj']; have := HVB.out j hj'; have := HLF.out j; omega)
              have iH : IntIn wr aH cH ((List.range n).map HG) := hAt.hi.intIn (fun j hj => by
                have hj' : j < n := by simpa using hj
                rw [List.getElem_map, List.getElem_range, eH j hj']; have := HVB.out j hj'; have := HHF.out j; omega)
              have iA : IntIn wr aA cA ((List.range n).map AT) := hAt.base.at'.intIn (fun j hj => by
                rw [List.getElem_map, List.getElem_range]; obtain ⟨k, h1, h2⟩ := HAT.out j; omega)
              have hex := sc_extreme_ok wr ta aL aH aA tc cL cH cA 4 n rs qs _ _ _ (HR.out.ext hE9) iL iH iA hn'.symm (by simp) (by simp) (by simp) (by omega) (by omega) hBx hIn.good
              have hle1 := hIn.least h3 qs
              have hle2 := hIn.greatest h3 qs
              have hm0 : ∀ k, 0 ≤ missF (at0 ((List.range n).map LO)) (at0 ((List.range n).map AT)) n k := fun k => by rw [hIn.miss]; exact ksum_nonneg _ _ _ _ (fun j hj => by have := hIn.box j (List.mem_range.1 hj); omega)
              have hel : ∀ j, j < n → rsz (atQ qs j) ≤ 4 ∧ -1073741824 ≤ at0 ((List.range n).map LO) j ∧ at0 ((List.range n).map LO) j ≤ at0 ((List.range n).map HG) j ∧ at0 ((List.range n).map HG) j ≤ 1073741824 := fun j hj => ⟨by
                rw [atQ_eq (by rw [HR.out.len]; omega)]
                have := (HR.out.num j (by omega)).rsz
                omega, hBx j hj⟩
              have hz1 := fillSum_rsz (atQ qs) (at0 ((List.range n).map LO)) (at0 ((List.range n).map HG)) (at0 ((List.range n).map AT)) 4 (scOrder qs n) _ hm0 (fun j hj => hel j ((scOrder_mem _ _ _).1 hj))
              have hz2 := fillSum_rsz (atQ qs) (at0 ((List.range n).map LO)) (at0 ((List.range n).map HG)) (at0 ((List.range n).map AT)) 4 (scOrder qs n).reverse _ hm0 (fun j hj => hel j ((scOrder_mem _ _ _).1 (List.mem_reverse.1 hj)))
              rw [scOrder_length] at hz1
              rw [List.length_reverse, scOrder_length] at hz2
              generalize fillSum (atQ qs) (at0 ((List.range n).map LO)) (at0 ((List.range n).map HG)) (at0 ((List.range n).map AT)) (scOrder qs n) (missF (at0 ((List.range n).map LO)) (at0 ((List.range n).map AT)) n) = P at hex hle1 hz1
              generalize fillSum (atQ qs) (at0 ((List.range n).map LO)) (at0 ((List.range n).map HG)) (at0 ((List.range n).map AT)) (scOrder qs n).reverse (missF (at0 ((List.range n).map LO)) (at0 ((List.range n).map AT)) n) = Q at hex hle2 hz2
              obtain ⟨r, hr1, hr2⟩ := hAt.sum
              generalize vsum (atQ qs) V (List.range n) = S at *
              have hn10 : n * (4 + 6) ≤ 30 * 10 := Nat.mul_le_mul_right _ (by omega)
              have hn12 : n * 12 ≤ 30 * 12 := Nat.mul_le_mul_right _ (by omega)
              have la := hAt.lo.le; have lb := hAt.lo.cap; have lc' := hAt.hi.le; have ld := hAt.hi.cap; have le' := hAt.base.at'.le; have lf' := hAt.base.at'.cap
              rw [List.length_map, List.length_range] at la lc' le'
              have HEX := Lib.hid hex
              clear hex hn' hIn hBx h3 iL iH iA hm0 hel gL gH gA eL eH hLO hHG hAt HAT HZ HVB HLF HHF HR HS HX HB HU HI
              go_wp2_with fail
              refine HEX.out.mono ?_
              rintro e w9 ⟨r1, r2, rfl, hp, hq, x9⟩
              go_upto_region 24 with fail
              obtain ⟨V10, hV10, x10, Z10, A10, B10⟩ := boxes2 w9 55 [.bool r1.s, .slice r1.a r1.k r1.c, .slice r1.b r1.j r1.d] 55 [.bool r2.s, .slice r2.a r2.k r2.c, .slice r2.b r2.j r2.d]
              rw [show (w9.alloc (Obj.cells #[.bool r1.s, .slice r1.a r1.k r1.c, .slice r1.b r1.j r1.d] 55)).alloc (Obj.cells #[.bool r2.s, .slice r2.a r2.k r2.c, .slice r2.b r2.j r2.d] 55) = V10 from hV10.symm]
              clear hV10 Z10
              have hp10 := hp.ext x10
              have hq10 := hq.ext x10
              have hr10 := hr2.ext (x9.trans x10)
              have R10 := hr1.ext (x9.trans x10)
              have t1 : decide (cmpQ P S ≤ 0) = true := decide_eq_true (Int.not_lt.1 (fun h => absurd (cmpQ_gt.1 h) (Rat.not_lt.2 hle1)))
              have t2 : decide (cmpQ S Q ≤ 0) = true := decide_eq_true (Int.not_lt.1 (fun h => absurd (cmpQ_gt.1 h) (Rat.not_lt.2 hle2)))
              have hC : ∀ U, Ext V10 U → ∀ (x y : RVal) (p q : Rat) (B B' : Nat), rsz p ≤ 1000 → rsz q ≤ 1000 → IsCan V10 x p B → IsCan V10 y q B' → Calls Tryz.prog 28 #[.agg #[.bool x.s, .slice x.a x.k x.c, .slice x.b x.j x.d], .agg #[.bool y.s, .slice y.a y.k y.c, .slice y.b y.j y.d]] U fun e w' => e = .returned (.int .i64 (cmpQ p q)) ∧ Ext U w' := by
                intro U hU x y p q B B' hzp hzq hx hy
                have hx' := hx.ext hU
                have hy' := hy.ext hU
                have s1 := hx'.short hzp
                have s2 := hy'.short hzq
                have h5 := r3_Compare U x.s _ _ _ _ _ _ _ _ hx'.num hx'.den y.s _ _ _ _ _ _ _ _ hy'.num hy'.den (by omega) (by omega) (by omega) (by omega)
                rw [hx'.s, sgn_num, Rat.mkRat_self, hy'.s, sgn_num, Rat.mkRat_self] at h5
                rw [hx'.s, hy'.s]
                exact h5
              have hC1 := fun U hU => hC U hU r1 r P S _ _ (by omega) (by omega) hp10 hr10
              have hC2 := fun U hU => hC U hU r r2 S Q _ _ (by omega) (by omega) hr10 hq10
              generalize cmpQ P S = z1 at hC1 t1
              generalize cmpQ S Q = z2 at hC2 t2
              have HC1 := Lib.hid hC1; have HC2 := Lib.hid hC2; have HR10 := Lib.hid R10; have HA10 := Lib.hid A10; have HB10 := Lib.hid B10
              have XV : Ext w V10 := hE9.trans (x9.trans x10)
              clear hC hC1 hC2 hp hq hp10 hq10 hr10 hr1 hr2 R10 A10 B10 HEX hle1 hle2
              go_wp2_with fail
              refine (law30_awake _).mono ?_
              rintro e w11 ⟨rfl, x11⟩
              obtain ⟨a0, a1, a2, -, -, -⟩ := box3 HA10.out x11
              obtain ⟨b0, b1, b2, -, -, -⟩ := box3 HB10.out x11
              obtain ⟨c0, c1, c2, -, -, -⟩ := box3 HR10.out x11
              go_wp2_with fail
              refine (HC1.out _ x11).mono ?_
              rintro e w12 ⟨rfl, x12⟩
              clear a0 a1 a2 b0 b1 b2 c0 c1 c2
              obtain ⟨b0, b1, b2, -, -, -⟩ := box3 HB10.out (x11.trans x12)
              obtain ⟨c0, c1, c2, -, -, -⟩ := box3 HR10.out (x11.trans x12)
              go_wp2_with fail
              refine (HC2.out _ (x11.trans x12)).mono ?_
              rintro e w13 ⟨rfl, x13⟩
              go_wp2_with fail
              go_ret
              exact ⟨rfl, XV.trans ((x11.trans x12).trans x13)⟩

end Go.Proofs.YtgihpfkjpfanmaaGreat


namespace Go.Proofs.YtgihpfkjpfanmaaGreat
open Go.RowKit

set_option maxRecDepth 100000 in
theorem law30_ScreenInside (w : World) (ta : Option Addr) (tc : Nat) (rs : List RVal) (xa : Option Addr) (xc : Nat) (xs : List Int) (ba : Option Addr) (bc : Nat) (below : List Int) (ua : Option Addr) (uc : Nat) (above : List Int) (ia : Option Addr) (ic : Nat) (isl : List Int)
    (hT : RatsIn w ta tc rs) (hx : IntIn w xa xc xs) (hb : IntIn w ba bc below) (hu : IntIn w ua uc above) (hi : IntIn w ia ic isl) :
    Calls Tryz.prog 6 #[.slice ta rs.length tc, .slice xa xs.length xc, .slice ba below.length bc, .slice ua above.length uc, .slice ia isl.length ic] w fun e w' => e = .returned (.bool true) ∧ Ext w w' := by
  have q1 := hx.le; have q2 := hx.cap; have q3 := hb.le; have q4 := hb.cap; have q5 := hu.le; have q6 := hu.cap; have q7 := hi.le; have q8 := hi.cap
  by_cases hr : IsRaw rs
  · by_cases hl : xs.length ≤ 40 ∧ below.length ≤ 40 ∧ above.length ≤ 40 ∧ isl.length ≤ 40
    · exact law30_inside w ta xa ba ua ia tc xc bc uc ic rs xs below above isl hT hr hx hb hu hi hl.1 hl.2.1 hl.2.2.1 hl.2.2.2
    · have HRaw := Lib.hid (stage_Raw_yes w ta tc rs hT hr)
      have hz : decide ((40 : Int) < (xs.length : Int)) = true ∨ (decide ((40 : Int) < (xs.length : Int)) = false ∧ decide ((40 : Int) < (below.length : Int)) = true) ∨ (decide ((40 : Int) < (xs.length : Int)) = false ∧ decide ((40 : Int) < (below.length : Int)) = false ∧ decide ((40 : Int) < (above.length : Int)) = true) ∨ (decide ((40 : Int) < (xs.length : Int)) = false ∧ decide ((40 : Int) < (below.length : Int)) = false ∧ decide ((40 : Int) < (above.length : Int)) = false ∧ decide ((40 : Int) < (isl.length : Int)) = true) := by
        simp only [decide_eq_true_eq, decide_eq_false_iff_not]
        omega
      clear hl hr hT hx hb hu hi
      rcases hz with d1 | ⟨d1, d2⟩ | ⟨d1, d2, d3⟩ | ⟨d1, d2, d3, d4⟩
      all_goals
        go_enter Tryz.func6, Tryz.ntmps6
        go_wp2_with fail
        refine HRaw.out.mono ?_
        rintro e w' ⟨rfl, rfl⟩
        go_wp2_with fail
        go_ret
        exact ⟨rfl, Ext.refl _⟩
  · have HRaw := Lib.hid (stage_Raw_no w ta tc rs hT hr)
    clear hr
    go_enter Tryz.func6, Tryz.ntmps6
    go_wp2_with fail
    refine HRaw.out.mono ?_
    rintro e w' ⟨rfl, rfl⟩
    go_wp2_with fail
    go_ret
    exact ⟨rfl, Ext.refl _⟩

end Go.Proofs.YtgihpfkjpfanmaaGreat
