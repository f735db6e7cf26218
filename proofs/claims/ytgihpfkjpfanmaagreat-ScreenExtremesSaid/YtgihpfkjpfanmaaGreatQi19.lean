/- Texts of the proof: Sd2. -/
import Derived.Deep.DeepCutAuto
import Derived.Deep.CutBlock
import Derived.IntWalk
import Derived.Test.YtgihpfkjpfanmaaGreatRows
import Derived.Laws.AppendOwnNone
import Derived.Deep.LoopGhost
import Derived.Deep.Slices
import Derived.Deep.RegionHeld
import Derived.KernelRfl
import Derived.WalkKit
import Derived.WalkSpells
import Derived.Sort.Grow
import Derived.Lib.Hide
import Derived.Laws.CopyOwn
import Derived.Laws.BitsAllLaws
import Derived.Deep.QuietTactic
import Derived.BigQuiet
import Derived.WalkLawsBesides
import Derived.Deep.RegionWith
import Derived.Deep.RegionHeld3
import Derived.Test.YtgihpfkjpfanmaaGreatProg
import Derived.Shelf.SlSortCmp.NoneTotal
import Derived.Maps.RangeWalk
import Derived.Maps.OwnSet
import Derived.Maps.OwnOps
import Derived.Maps.Views
import Derived.Lib.MinMax
import Derived.Shelf.SlMaps.Clone
import Derived.Shelf.SlicesE.Reverse
import Derived.Test.YtgihpfkjpfanmaaGreatChecked
import Derived.Lib.Strings
import Derived.Lib.Slices
import Derived.Lib.Small
import Derived.Lib.Walk
import Derived.Lib.BitFns
import Derived.ProofKit
import Derived.OpenShut
import Derived.ShutString
import Derived.ChangeOld
import Derived.Below
import Derived.Test.YtgihpfkjpfanmaaGreatQi1
import Derived.Test.YtgihpfkjpfanmaaGreatQi2
import Derived.Test.YtgihpfkjpfanmaaGreatQi3
import Derived.Test.YtgihpfkjpfanmaaGreatQi4
import Derived.Test.YtgihpfkjpfanmaaGreatQi5
import Derived.Test.YtgihpfkjpfanmaaGreatQi6
import Derived.Test.YtgihpfkjpfanmaaGreatQi7
import Derived.Test.YtgihpfkjpfanmaaGreatQi8
import Derived.Test.YtgihpfkjpfanmaaGreatQi9
import Derived.Test.YtgihpfkjpfanmaaGreatQi10
import Derived.Test.YtgihpfkjpfanmaaGreatQi11
import Derived.Test.YtgihpfkjpfanmaaGreatQi12
import Derived.Test.YtgihpfkjpfanmaaGreatQi13
import Derived.Test.YtgihpfkjpfanmaaGreatQi14
import Derived.Test.YtgihpfkjpfanmaaGreatQi15
import Derived.Test.YtgihpfkjpfanmaaGreatQi16
import Derived.Test.YtgihpfkjpfanmaaGreatQi18
namespace Go.Proofs.YtgihpfkjpfanmaaGreat
open Go.RowKit

theorem r3_MulC (V : World) (y : RVal) (q : Rat) (L : Nat) (hy : IsRat V y q L) (hk : y.k ≤ 1000) (hj : y.j ≤ 1000) (r : RVal) (p : Rat) (B : Nat) (hr : IsCan V r p B) (hp : rsz p ≤ 10000000) :
    Calls Tryz.prog 31 #[.agg #[.bool y.s, .slice y.a y.k y.c, .slice y.b y.j y.d], .agg #[.bool r.s, .slice r.a r.k r.c, .slice r.b r.j r.d]] V (NewRat (q * p) V) := by
  obtain ⟨n, m, g1, g2, gq, -, -⟩ := hy
  have hs := hr.short hp
  have h5 := r3_Mul V y.s _ _ _ _ _ _ _ _ g1 g2 r.s _ _ _ _ _ _ _ _ hr.num hr.den (by omega) (by omega) (by omega) (by omega)
  rw [← gq, hr.s, sgn_num, Rat.mkRat_self] at h5
  rw [hr.s]
  exact h5
theorem r3_AddC (V : World) (y : RVal) (q : Rat) (B' : Nat) (hy : IsCan V y q B') (hq : rsz q ≤ 10000000) (r : RVal) (p : Rat) (B : Nat) (hr : IsCan V r p B) (hp : rsz p ≤ 10000000) :
    Calls Tryz.prog 30 #[.agg #[.bool y.s, .slice y.a y.k y.c, .slice y.b y.j y.d], .agg #[.bool r.s, .slice r.a r.k r.c, .slice r.b r.j r.d]] V (NewRat (q + p) V) := by
  have hs := hr.short hp
  have hs' := hy.short hq
  have h5 := r3_Add V y.s _ _ _ _ _ _ _ _ hy.num hy.den r.s _ _ _ _ _ _ _ _ hr.num hr.den (by omega) (by omega) (by omega) (by omega)
  rw [hy.s, sgn_num, Rat.mkRat_self, hr.s, sgn_num, Rat.mkRat_self] at h5
  rw [hy.s, hr.s]
  exact h5
theorem r3_CmpI (V : World) (y : RVal) (q : Rat) (L' : Nat) (hy : IsRat V y q L') (hk : y.k ≤ 10000000) (hj : y.j ≤ 10000000) (r : RVal) (p : Rat) (L : Nat) (hr : IsRat V r p L) (hk' : r.k ≤ 10000000) (hj' : r.j ≤ 10000000) :
    Calls Tryz.prog 28 #[.agg #[.bool y.s, .slice y.a y.k y.c, .slice y.b y.j y.d], .agg #[.bool r.s, .slice r.a r.k r.c, .slice r.b r.j r.d]] V fun e w' => e = .returned (.int .i64 (cmpQ q p)) ∧ Ext V w' := by
  obtain ⟨n, m, g1, g2, gq, -, -⟩ := hy
  obtain ⟨n', m', g1', g2', gq', -, -⟩ := hr
  have h5 := r3_Compare V y.s _ _ _ _ _ _ _ _ g1 g2 r.s _ _ _ _ _ _ _ _ g1' g2' (by omega) (by omega) (by omega) (by omega)
  rw [← gq, ← gq'] at h5
  exact h5

def bools (n : Nat) (u : Nat → Bool) : List Value := (List.range n).map fun j => Value.bool (u j)
theorem bools_get (n : Nat) (u : Nat → Bool) (i : Nat) (h : i < n) : (bools n u)[i]? = some (.bool (u i)) := by simp [bools, h]
theorem bools_congr (n : Nat) (u v : Nat → Bool) (h : ∀ j, j < n → u j = v j) : bools n u = bools n v := by
  unfold bools
  exact List.map_congr_left fun j hj => by rw [h j (List.mem_range.1 hj)]
theorem bools_set (n : Nat) (u : Nat → Bool) (i : Nat) (b : Bool) : (bools n u).set i (.bool b) = bools n (fun j => if j = i then b else u j) := by
  apply List.ext_getElem
  · simp [bools]
  · intro j h1 h2
    have hj : j < n := by simpa [bools] using h2
    by_cases hij : i = j
    · subst hij; simp [bools]
    · rw [List.getElem_set_ne hij]; simp [bools]; intro e; exact absurd e.symm hij
theorem bools_zeros (n : Nat) : List.replicate n (Value.bool false) = bools n (fun _ => false) := by
  apply List.ext_getElem
  · simp [bools]
  · intro j h1 h2; simp [bools]
theorem Limbs.overBool {w : World} {a : Option Addr} {c : Nat} {l : List Nat} (h : Limbs w a c l) {b n : Nat} {T : TypeId} {u : Nat → Bool} (hA : Arr w b T (bools n u)) (i : Nat) (v : Value) : Limbs (w.setCell ⟨b, i, none⟩ v) a c l :=
  ⟨h.le, h.cap, h.short, h.nul, h.small, fun j hj => by
    obtain ⟨b', o, ha, hc⟩ := h.cell j hj
    refine ⟨b', o, ha, ?_⟩
    by_cases hb : b' = b
    · subst hb
      rw [hA.cell] at hc
      unfold bools at hc
      rw [List.getElem?_map] at hc
      cases hq : (List.range n)[o + j]? with
      | none => rw [hq] at hc; cases hc
      | some z => rw [hq] at hc; simp at hc
    · rw [World.cell?_setCell_other _ _ _ _ (by intro e; have := congrArg Addr.block e; simp at this; omega)]; exact hc⟩
theorem Raw.overBool {w : World} {a : Option Addr} {k c m : Nat} (h : Raw w a k c m) {b n : Nat} {T : TypeId} {u : Nat → Bool} (hA : Arr w b T (bools n u)) (i : Nat) (v : Value) : Raw (w.setCell ⟨b, i, none⟩ v) a k c m := by
  obtain ⟨l, h1, h2, h3⟩ := h; exact ⟨l, h1, h2, h3.overBool hA i v⟩
theorem IsCan.overBool {w : World} {r : RVal} {q : Rat} {B : Nat} (h : IsCan w r q B) {b n : Nat} {T : TypeId} {u : Nat → Bool} (hA : Arr w b T (bools n u)) (i : Nat) (v : Value) : IsCan (w.setCell ⟨b, i, none⟩ v) r q B :=
  ⟨h.s, h.k, h.j, h.num.overBool hA i v, h.den.overBool hA i v, h.fa, h.fb⟩

def cntW (wl : World) (B n : Nat) : Nat := cnt (fun j => match wl.cell? ⟨B, j, none⟩ with | some (.bool true) => true | _ => false) n
theorem cnt_congr (u v : Nat → Bool) (n : Nat) (h : ∀ j, j < n → u j = v j) : cnt u n = cnt v n := by
  induction n with
  | zero => rfl
  | succ n ih => unfold cnt; rw [ih (fun j hj => h j (by omega)), h n (by omega)]

/-- The blocks of greatest: its result, the sum, the places that are used. -/
structure GA (w : World) (B1 B2 n : Nat) (q : Rat) (u : Nat → Bool) (wr : World) : Prop where
  ext : Ext w wr
  res : Arr wr w.heap.size 55 zero3
  sum : ∃ r : RVal, Arr wr B1 55 r.cells ∧ IsCan wr r q (w.heap.size + 1)
  used : Arr wr B2 4 (bools n u)
section
variable {w : World} {B1 B2 n : Nat} {q : Rat} {u : Nat → Bool} {wr : World}
theorem GA.ext' {wr' : World} (h : GA w B1 B2 n q u wr) (e : Ext wr wr') : GA w B1 B2 n q u wr' := by
  obtain ⟨r, h1, h2⟩ := h.sum
  exact ⟨h.ext.trans e, h.res.ext e, ⟨r, h1.ext e, h2.ext e⟩, h.used.ext e⟩
theorem GA.congr {u' : Nat → Bool} (h : GA w B1 B2 n q u wr) (e : ∀ j, j < n → u j = u' j) : GA w B1 B2 n q u' wr :=
  ⟨h.ext, h.res, h.sum, by rw [← bools_congr n u u' e]; exact h.used⟩
theorem GA.value {q' : Rat} (h : GA w B1 B2 n q u wr) (e : q = q') : GA w B1 B2 n q' u wr := e ▸ h
theorem GA.setU (h : GA w B1 B2 n q u wr) (h1 : w.heap.size < B1) (h2 : B1 < B2) (i : Nat) (b : Bool) : GA w B1 B2 n q (fun j => if j = i then b else u j) (wr.setCell ⟨B2, i, none⟩ (.bool b)) := by
  obtain ⟨r, h3, h4⟩ := h.sum
  refine ⟨h.ext.setCell (by simp only; omega) _, h.res.other _ _ (by simp only; omega), ⟨r, h3.other _ _ (by simp only; omega), h4.overBool h.used i _⟩, ?_⟩
  have h5 := h.used.set i (.bool b)
  rw [bools_set] at h5
  exact h5
theorem GA.setS (h : GA w B1 B2 n q u wr) (h1 : w.heap.size < B1) (h2 : B1 < B2) {r : RVal} {q' : Rat} {B : Nat} (hr : IsCan wr r q' B) (hB : B1 < B) : GA w B1 B2 n q' u (((wr.setCell ⟨B1, 0, none⟩ (.bool r.s)).setCell ⟨B1, 1, none⟩ (.slice r.a r.k r.c)).setCell ⟨B1, 2, none⟩ (.slice r.b r.j r.d)) := by
  obtain ⟨r0, h3, h4⟩ := h.sum
  exact ⟨Ext.set3' h.ext (by omega), ((h.res.other ⟨B1, 0, none⟩ _ (by simp only; omega)).other ⟨B1, 1, none⟩ _ (by simp only; omega)).other ⟨B1, 2, none⟩ _ (by simp only; omega), ⟨r, ((h3.set 0 _).set 1 _).set 2 _, (hr.same3 B1 hB).mono (by omega)⟩, ((h.used.other ⟨B1, 0, none⟩ _ (by simp only; omega)).other ⟨B1, 1, none⟩ _ (by simp only; omega)).other ⟨B1, 2, none⟩ _ (by simp only; omega)⟩
theorem GA.count (h : GA w B1 B2 n q u wr) : cntW wr B2 n = cnt u n :=
  cnt_congr _ _ _ (fun j hj => by rw [h.used.cell, bools_get n u j hj]; cases u j <;> rfl)
end

/-- What greatest returns. -/
def GrRes (w : World) (n : Nat) (t : Nat → Rat) (isl lo hi : Nat → Int) (k : Int) (e : Ending) (w' : World) : Prop :=
  Ext w w' ∧ ∃ (r : RVal) (b : Bool), e = .returned (.tuple #[.agg #[.bool r.s, .slice r.a r.k r.c, .slice r.b r.j r.d], .bool b]) ∧
    ((b = true ∧ OkI n isl lo hi k ∧ ∃ x, Opt n t isl lo hi x k ∧ IsCan w' r (msum t x (fun j => isl j == k) n) w.heap.size) ∨ (b = false ∧ ¬ OkI n isl lo hi k))

theorem missF_next (lo isl : Nat → Int) (i : Nat) (k : Int) : missF lo isl (i + 1) k = missF lo isl i k - (if isl i = k then lo i else 0) := by
  unfold missF; rw [ksum_range_succ]; omega
theorem missF_bound (lo isl : Nat → Int) (k : Int) (i : Nat) (hi : i ≤ 40) (h : ∀ j, j < i → -1073741824 ≤ lo j ∧ lo j ≤ 1073741824) : -42949672960 ≤ missF lo isl i k ∧ missF lo isl i k ≤ 42949672960 := by
  have h1 := ksum_bound isl lo k 1073741824 i (by decide) h
  unfold missF
  omega

/-- The while loop. -/
def WhAt (w : World) (B1 B2 n : Nat) (t : Nat → Rat) (isl lo hi : Nat → Int) (k : Int) (P : Nat → Bool) (m : Int) (wr : World) : Prop :=
  ∃ (x : Nat → Int) (u : Nat → Bool), (GrAt n t isl lo hi k x u m ∨ (m < 0 ∧ m = missF lo isl n k)) ∧ GA w B1 B2 n (msum t x P n) u wr

set_option maxHeartbeats 8000000 in
set_option maxRecDepth 100000 in
theorem r30_greatest (w : World) (ta la ha ia : Option Addr) (tc lc hc ic L n : Nat) (rs : List RVal) (qs : List Rat) (lo hi isl : List Int) (k : Int)
    (hR : Rats w ta tc rs qs L) (hS : RShort rs 1000) (hlo : IntIn w la lc lo) (hhi : IntIn w ha hc hi) (hil : IntIn w ia ic isl)
    (n1 : rs.length = n) (n2 : lo.length = n) (n3 : hi.length = n) (n4 : isl.length = n) (hn : n ≤ 32) (hL : L ≤ 1000)
    (hb : ∀ i, i < n → (-1073741824 ≤ at0 lo i ∧ at0 lo i ≤ 1073741824) ∧ -1073741824 ≤ at0 hi i ∧ at0 hi i ≤ 1073741824) :
    Calls Tryz.prog 73 #[.slice ta n tc, .slice la n lc, .slice ha n hc, .slice ia n ic, .int .i64 k] w fun e w' => GrRes w n (atQ qs) (at0 isl) (at0 lo) (at0 hi) k e w' := by
  have hRle := hR.le; have hRcap := hR.cap; have hl1 := hlo.le; have hl2 := hlo.cap; have hh1 := hhi.le; have hh2 := hhi.cap; have hi1 := hil.le; have hi2 := hil.cap
  have HR := Lib.hid hR; have HS := Lib.hid hS; have HLO := Lib.hid hlo; have HHI := Lib.hid hhi; have HIL := Lib.hid hil; have HB := Lib.hid hb
  have hsz : ∀ i, i < n → rsz (atQ qs i) ≤ 1000 := by
    intro i hi'
    rw [atQ_eq (by rw [hR.len]; omega)]
    have := (hR.num i (by omega)).rsz
    omega
  have HSZ := Lib.hid hsz
  clear hR hS hlo hhi hil hb hsz
  obtain ⟨P, hP⟩ : ∃ P : Nat → Bool, P = fun j => at0 isl j == k := ⟨_, rfl⟩
  have HP := Lib.hid hP
  clear hP
  go_enter Tryz.func73, Tryz.ntmps73
  go_upto_region 1 with fail
  obtain ⟨W, hW, x0, Z0, A0⟩ := boxes1 w 55 zero3
  rw [show World.alloc w (Obj.cells #[Value.bool false, Value.slice none 0 0, Value.slice none 0 0] 55) = W from hW.symm]
  clear hW
  go_wp2_with fail
  refine (r3_Zero _).mono ?_
  intro e w1 hN
  obtain ⟨r0, rfl, hr0, x1⟩ := hN.isCan
  clear hN
  rw [Z0.out] at hr0
  go_upto_region 2 with fail
  obtain ⟨W2, hW2, x2, Z2, A2⟩ := boxes1 w1 55 [.bool r0.s, .slice r0.a r0.k r0.c, .slice r0.b r0.j r0.d]
  rw [show w1.alloc (.cells #[.bool r0.s, .slice r0.a r0.k r0.c, .slice r0.b r0.j r0.d] 55) = W2 from hW2.symm]
  clear hW2
  obtain ⟨B1, hB1⟩ : ∃ B1, B1 = w1.heap.size := ⟨_, rfl⟩
  obtain ⟨B2, hB2⟩ : ∃ B2, B2 = W2.heap.size := ⟨_, rfl⟩
  have hb1 : w.heap.size < B1 := by have := x1.size; have := Z0.out; omega
  have hb2 : B1 < B2 := by have := Z2.out; omega
  rw [← hB1] at A2 ⊢
  have HBB1 := Lib.hid hB1; have HBB2 := Lib.hid hB2
  clear hB1 hB2
  go_upto_region 3 with (at_make; refine wpList_make_one _ rfl _ _ 180 rfl 4 (.bool false) 1 Tryz.underlying180 (by kernel_rfl) rfl _ _ n rfl rfl (by go_num) (by go_num) (by omega) (by omega) ?_; intro w3 hw3 hx3 hz3)
  rw [← HBB2.out] at hw3 ⊢
  have SI : Hid (GA w B1 B2 n (msum (atQ qs) (at0 lo) P 0) (fun j => decide (j < 0) && (at0 isl j != k)) w3) :=
    ⟨((x0.trans x1).trans x2).trans hx3, A0.ext ((x1.trans x2).trans hx3), ⟨r0, A2.ext hx3, hr0.ext (x2.trans hx3)⟩, by
      have h5 := hw3.out
      rw [bools_zeros] at h5
      rw [bools_congr n (fun j => decide (j < 0) && (at0 isl j != k)) (fun _ => false) (fun j _ => by simp)]
      exact h5⟩
  clear hw3 hx3 hz3 A0 A2 x0 x1 x2 hr0 Z0 Z2
  go_wp2_with fail
  go_loopw [13, 15] (fun vn ii wr => ∃ i : Nat, i ≤ n ∧ (∀ j, j < i → at0 isl j = k → at0 lo j ≤ at0 hi j) ∧ GA w B1 B2 n (msum (atQ qs) (at0 lo) P i) (fun j => decide (j < i) && (at0 isl j != k)) wr ∧ vn = .int .i64 (missF (at0 lo) (at0 isl) i k) ∧ ii = .int .i64 i) (fun _ ii _ => n - (intOf ii).toNat)
  case atStart => exact ⟨0, Nat.zero_le _, fun j hj => absurd hj (Nat.not_lt_zero _), SI.out, by rw [missF_zero], rfl⟩
  case round =>
    obtain ⟨i, hi0, hle, hG, rfl, rfl⟩ := hrel
    clear SI
    by_cases hlt : i < n
    · have hE := hG.ext
      obtain ⟨bi, oi, rfl, cI0⟩ := HIL.out.cell i (by omega)
      obtain ⟨bl, ol, rfl, cL0⟩ := HLO.out.cell i (by omega)
      obtain ⟨bh, oh, rfl, cH0⟩ := HHI.out.cell i (by omega)
      obtain ⟨bt, ot, rfl, c00, c01, c02⟩ := HR.out.cell i (by omega)
      have hq := HR.out.num i (by omega)
      have hsh := HS.out i (by omega)
      have eI : at0 isl i = isl[i] := at0_eq (by omega)
      have eL : at0 lo i = lo[i] := at0_eq (by omega)
      have eH : at0 hi i = hi[i] := at0_eq (by omega)
      have eQ : atQ qs i = qs[i]'(by rw [HR.out.len]; omega) := atQ_eq (by rw [HR.out.len]; omega)
      have hbb := HB.out i hlt
      have hmb := missF_bound (at0 lo) (at0 isl) k i (by omega) (fun j hj => (HB.out j (by omega)).1)
      have hmn := missF_next (at0 lo) (at0 isl) i k
      rw [← eI] at cI0; rw [← eL] at cL0; rw [← eH] at cH0; rw [← eQ] at hq
      have hms : msum (atQ qs) (at0 lo) P (i + 1) = msum (atQ qs) (at0 lo) P i + (if P i = true then atQ qs i * ((at0 lo i : Int) : Rat) else 0) := rfl
      have hPi : P i = (at0 isl i == k) := by rw [HP.out]
      have hszs : rsz (msum (atQ qs) (at0 lo) P i) ≤ 1 + i * 1006 := msum_rsz _ _ _ 1000 i (fun j hj => HSZ.out j (by omega)) (fun j hj _ => by have := (HB.out j (by omega)).1; omega)
      obtain ⟨m, hm⟩ : ∃ m, m = missF (at0 lo) (at0 isl) i k := ⟨_, rfl⟩
      rw [← hm] at hmb hmn ⊢
      obtain ⟨q, hq'⟩ : ∃ q, q = atQ qs i := ⟨_, rfl⟩
      rw [← hq'] at hq hms
      obtain ⟨l, hl⟩ : ∃ l, l = at0 lo i := ⟨_, rfl⟩
      obtain ⟨h, hh⟩ : ∃ h, h = at0 hi i := ⟨_, rfl⟩
      rw [← hl] at cL0 hbb hmn hms
      rw [← hh] at cH0 hbb
      have HL := Lib.hid hl; have HH := Lib.hid hh
      clear hl hh
      generalize rs[i] = y at *
      have HG := Lib.hid hG; have HLE := Lib.hid hle; have HE := Lib.hid hE
      have HMN := Lib.hid hmn; have HMS := Lib.hid hms; have HQ := Lib.hid hq
      have bi0 : (0 : Int) ≤ (i : Int) := by omega
      have bi1 : (i : Int) < (n : Int) := by omega
      by_cases hk : at0 isl i = k
      · have hPt : P i = true := by rw [hPi]; simpa using hk
        rw [hk] at cI0
        have cI := cell_ext hE cI0
        clear hG hle hms hmn hm hq' eI eL eH eQ hPi hq
        have t1 : (k != k) = false := by simp
        go_wp2_with fail
        clear cI
        have cL := cell_ext hE.drew cL0
        have cH := cell_ext hE.drew cH0
        by_cases hlh : h < l
        · have t2 : decide (h < l) = true := by simpa using hlh
          refine wp_region_Y (fun w' => w'.cell? ⟨bl, ol + i, none⟩ = some (.int .i64 l) ∧ w'.cell? ⟨bh, oh + i, none⟩ = some (.int .i64 h)) (fun w' => True) (fun i => false) (by kernel_rfl) (⟨cL, cH⟩) (trivial) (fun hHeld hFirst => ?_)
          refine wpAnyY_take (i := 0) (v := .slice (some ⟨bl, ol, none⟩) n lc) rfl (by kernel_rfl) (by kernel_rfl) (by kernel_rfl) (by kernel_rfl) (fun _ _ _ h => h) (Or.inl ⟨by rfl, fun w hSw => by (obtain ⟨e0, e1⟩ := hSw; go_simp)⟩) hHeld (Or.inl hFirst) ?_
          try simp only [List.getElem_toArray, List.getElem_cons_zero, Act.put, List.setIfInBounds_toArray, List.set_cons_zero, List.set_cons_succ]
          refine wpAnyY_take (i := 1) (v := .int .i64 (i : Int)) rfl (by kernel_rfl) (by kernel_rfl) (by kernel_rfl) (by kernel_rfl) (fun _ _ _ h => h) (Or.inl ⟨by rfl, fun w hSw => by (obtain ⟨e0, e1⟩ := hSw; go_simp)⟩) hHeld (Or.inl hFirst) ?_
          try simp only [List.getElem_toArray, List.getElem_cons_succ, List.getElem_cons_zero, Act.put, List.setIfInBounds_toArray, List.set_cons_zero, List.set_cons_succ]
          refine wpAnyY_take (i := 2) (v := .pointer (some ⟨bl, ol + i, none⟩)) rfl (by kernel_rfl) (by kernel_rfl) (by kernel_rfl) (by kernel_rfl) (fun _ _ _ h => h) (Or.inl ⟨by rfl, fun w hSw => by (obtain ⟨e0, e1⟩ := hSw; go_simp)⟩) hHeld (Or.inl hFirst) ?_
          try simp only [List.getElem_toArray, List.getElem_cons_succ, List.getElem_cons_zero, Act.put, List.setIfInBounds_toArray, List.set_cons_zero, List.set_cons_succ]
          refine wpAnyY_take (i := 3) (v := .int .i64 l) rfl (by kernel_rfl) (by kernel_rfl) (by kernel_rfl) (by kernel_rfl) (fun _ _ _ h => h) (Or.inl ⟨by rfl, fun w hSw => by (obtain ⟨e0, e1⟩ := hSw; go_simp)⟩) hHeld (Or.inl hFirst) ?_
          try simp only [List.getElem_toArray, List.getElem_cons_succ, List.getElem_cons_zero, Act.put, List.setIfInBounds_toArray, List.set_cons_zero, List.set_cons_succ]
          refine wpAnyY_take (i := 4) (v := .slice (some ⟨bh, oh, none⟩) n hc) rfl (by kernel_rfl) (by kernel_rfl) (by kernel_rfl) (by kernel_rfl) (fun _ _ _ h => h) (Or.inl ⟨by rfl, fun w hSw => by (obtain ⟨e0, e1⟩ := hSw; go_simp)⟩) hHeld (Or.inl hFirst) ?_
          try simp only [List.getElem_toArray, List.getElem_cons_succ, List.getElem_cons_zero, Act.put, List.setIfInBounds_toArray, List.set_cons_zero, List.set_cons_succ]
          refine wpAnyY_take (i := 5) (v := .int .i64 (i : Int)) rfl (by kernel_rfl) (by kernel_rfl) (by kernel_rfl) (by kernel_rfl) (fun _ _ _ h => h) (Or.inl ⟨by rfl, fun w hSw => by (obtain ⟨e0, e1⟩ := hSw; go_simp)⟩) hHeld (Or.inl hFirst) ?_
          try simp only [List.getElem_toArray, List.getElem_cons_succ, List.getElem_cons_zero, Act.put, List.setIfInBounds_toArray, List.set_cons_zero, List.set_cons_succ]
          refine wpAnyY_take (i := 6) (v := .pointer (some ⟨bh, oh + i, none⟩)) rfl (by kernel_rfl) (by kernel_rfl) (by kernel_rfl) (by kernel_rfl) (fun _ _ _ h => h) (Or.inl ⟨by rfl, fun w hSw => by (obtain ⟨e0, e1⟩ := hSw; go_simp)⟩) hHeld (Or.inl hFirst) ?_
          try simp only [List.getElem_toArray, List.getElem_cons_succ, List.getElem_cons_zero, Act.put, List.setIfInBounds_toArray, List.set_cons_zero, List.set_cons_succ]
          refine wpAnyY_take (i := 7) (v := .int .i64 h) rfl (by kernel_rfl) (by kernel_rfl) (by kernel_rfl) (by kernel_rfl) (fun _ _ _ h => h) (Or.inl ⟨by rfl, fun w hSw => by (obtain ⟨e0, e1⟩ := hSw; go_simp)⟩) hHeld (Or.inl hFirst) ?_
          try simp only [List.getElem_toArray, List.getElem_cons_succ, List.getElem_cons_zero, Act.put, List.setIfInBounds_toArray, List.set_cons_zero, List.set_cons_succ]
          refine wpAnyY_take (i := 8) (v := .bool (decide (h < l))) rfl (by kernel_rfl) (by kernel_rfl) (by kernel_rfl) (by kernel_rfl) (fun _ _ _ h => h) (Or.inl ⟨by rfl, fun w hSw => by (obtain ⟨e0, e1⟩ := hSw; go_simp)⟩) hHeld (Or.inl hFirst) ?_
          try simp only [List.getElem_toArray, List.getElem_cons_succ, List.getElem_cons_zero, Act.put, List.setIfInBounds_toArray, List.set_cons_zero, List.set_cons_succ]
          refine wpAnyY_done (by kernel_rfl) ?_ _
          clear hHeld hFirst
          obtain ⟨a0, a1, a2, a3, a4, a5⟩ := box3 HG.out.res (Ext.refl _)
          obtain ⟨f0, f1, f2, f3, f4, f5⟩ := box3 HG.out.res (Ext.refl _).drew
          go_wp2_with fail
          refine bodyPost_ret (v := .tuple #[.agg #[.bool false, .slice none 0 0, .slice none 0 0], .bool false]) (by simp [results, Tryz.results73, go_sem, a0, a1, a2]) rfl ⟨Ext.set3' HE.out.drew (by omega), ⟨false, none, 0, 0, none, 0, 0⟩, false, rfl, Or.inr ⟨rfl, fun hO => ?_⟩⟩
          have := hO.1 i hlt hk
          rw [← HL.out, ← HH.out] at this
          omega
        · have t2 : decide (h < l) = false := by simpa using hlh
          refine wp_region_Y (fun w' => w'.cell? ⟨bl, ol + i, none⟩ = some (.int .i64 l) ∧ w'.cell? ⟨bh, oh + i, none⟩ = some (.int .i64 h)) (fun w' => True) (fun i => false) (by kernel_rfl) (⟨cL, cH⟩) (trivial) (fun hHeld hFirst => ?_)
          refine wpAnyY_take (i := 0) (v := .slice (some ⟨bl, ol, none⟩) n lc) rfl (by kernel_rfl) (by kernel_rfl) (by kernel_rfl) (by kernel_rfl) (fun _ _ _ h => h) (Or.inl ⟨by rfl, fun w hSw => by (obtain ⟨e0, e1⟩ := hSw; go_simp)⟩) hHeld (Or.inl hFirst) ?_
          try simp only [List.getElem_toArray, List.getElem_cons_zero, Act.put, List.setIfInBounds_toArray, List.set_cons_zero, List.set_cons_succ]
          refine wpAnyY_take (i := 1) (v := .int .i64 (i : Int)) rfl (by kernel_rfl) (by kernel_rfl) (by kernel_rfl) (by kernel_rfl) (fun _ _ _ h => h) (Or.inl ⟨by rfl, fun w hSw => by (obtain ⟨e0, e1⟩ := hSw; go_simp)⟩) hHeld (Or.inl hFirst) ?_
          try simp only [List.getElem_toArray, List.getElem_cons_succ, List.getElem_cons_zero, Act.put, List.setIfInBounds_toArray, List.set_cons_zero, List.set_cons_succ]
          refine wpAnyY_take (i := 2) (v := .pointer (some ⟨bl, ol + i, none⟩)) rfl (by kernel_rfl) (by kernel_rfl) (by kernel_rfl) (by kernel_rfl) (fun _ _ _ h => h) (Or.inl ⟨by rfl, fun w hSw => by (obtain ⟨e0, e1⟩ := hSw; go_simp)⟩) hHeld (Or.inl hFirst) ?_
          try simp only [List.getElem_toArray, List.getElem_cons_succ, List.getElem_cons_zero, Act.put, List.setIfInBounds_toArray, List.set_cons_zero, List.set_cons_succ]
          refine wpAnyY_take (i := 3) (v := .int .i64 l) rfl (by kernel_rfl) (by kernel_rfl) (by kernel_rfl) (by kernel_rfl) (fun _ _ _ h => h) (Or.inl ⟨by rfl, fun w hSw => by (obtain ⟨e0, e1⟩ := hSw; go_simp)⟩) hHeld (Or.inl hFirst) ?_
          try simp only [List.getElem_toArray, List.getElem_cons_succ, List.getElem_cons_zero, Act.put, List.setIfInBounds_toArray, List.set_cons_zero, List.set_cons_succ]
          refine wpAnyY_take (i := 4) (v := .slice (some ⟨bh, oh, none⟩) n hc) rfl (by kernel_rfl) (by kernel_rfl) (by kernel_rfl) (by kernel_rfl) (fun _ _ _ h => h) (Or.inl ⟨by rfl, fun w hSw => by (obtain ⟨e0, e1⟩ := hSw; go_simp)⟩) hHeld (Or.inl hFirst) ?_
          try simp only [List.getElem_toArray, List.getElem_cons_succ, List.getElem_cons_zero, Act.put, List.setIfInBounds_toArray, List.set_cons_zero, List.set_cons_succ]
          refine wpAnyY_take (i := 5) (v := .int .i64 (i : Int)) rfl (by kernel_rfl) (by kernel_rfl) (by kernel_rfl) (by kernel_rfl) (fun _ _ _ h => h) (Or.inl ⟨by rfl, fun w hSw => by (obtain ⟨e0, e1⟩ := hSw; go_simp)⟩) hHeld (Or.inl hFirst) ?_
          try simp only [List.getElem_toArray, List.getElem_cons_succ, List.getElem_cons_zero, Act.put, List.setIfInBounds_toArray, List.set_cons_zero, List.set_cons_succ]
          refine wpAnyY_take (i := 6) (v := .pointer (some ⟨bh, oh + i, none⟩)) rfl (by kernel_rfl) (by kernel_rfl) (by kernel_rfl) (by kernel_rfl) (fun _ _ _ h => h) (Or.inl ⟨by rfl, fun w hSw => by (obtain ⟨e0, e1⟩ := hSw; go_simp)⟩) hHeld (Or.inl hFirst) ?_
          try simp only [List.getElem_toArray, List.getElem_cons_succ, List.getElem_cons_zero, Act.put, List.setIfInBounds_toArray, List.set_cons_zero, List.set_cons_succ]
          refine wpAnyY_take (i := 7) (v := .int .i64 h) rfl (by kernel_rfl) (by kernel_rfl) (by kernel_rfl) (by kernel_rfl) (fun _ _ _ h => h) (Or.inl ⟨by rfl, fun w hSw => by (obtain ⟨e0, e1⟩ := hSw; go_simp)⟩) hHeld (Or.inl hFirst) ?_
          try simp only [List.getElem_toArray, List.getElem_cons_succ, List.getElem_cons_zero, Act.put, List.setIfInBounds_toArray, List.set_cons_zero, List.set_cons_succ]
          refine wpAnyY_take (i := 8) (v := .bool (decide (h < l))) rfl (by kernel_rfl) (by kernel_rfl) (by kernel_rfl) (by kernel_rfl) (fun _ _ _ h => h) (Or.inl ⟨by rfl, fun w hSw => by (obtain ⟨e0, e1⟩ := hSw; go_simp)⟩) hHeld (Or.inl hFirst) ?_
          try simp only [List.getElem_toArray, List.getElem_cons_succ, List.getElem_cons_zero, Act.put, List.setIfInBounds_toArray, List.set_cons_zero, List.set_cons_succ]
          refine wpAnyY_done (by kernel_rfl) ?_ _
          clear hHeld hFirst
          have hw1 : IntKind.i64.wrap (m - l) = m - l := by rw [IntKind.wrap_i64]; omega
          obtain ⟨r, hA1, hC1⟩ := (HG.out.ext' (Ext.refl _).drew).sum
          have HC1 := Lib.hid hC1
          have hlz := len_i64 (z := l) (by omega) (by omega)
          have hmz : rsz (q * ((l : Int) : Rat)) ≤ 2000 := by
            have := rsz_mul q ((l : Int) : Rat); have := HQ.out.rsz; omega
          have hKS : ∀ V, Ext w V → V.cell? ⟨bl, ol + i, none⟩ = some (.int .i64 l) ∧ V.cell? ⟨bt, ot + i * 3, none⟩ = some (.bool y.s) ∧ V.cell? ⟨bt, ot + i * 3 + 1, none⟩ = some (.slice y.a y.k y.c) ∧ V.cell? ⟨bt, ot + i * 3 + 2, none⟩ = some (.slice y.b y.j y.d) := fun V hV => ⟨cell_ext hV cL0, cell_ext hV c00, cell_ext hV c01, cell_ext hV c02⟩
          have hKR : ∀ V, Ext wr.drew V → V.cell? ⟨B1, 0, none⟩ = some (.bool r.s) ∧ V.cell? ⟨B1, 1, none⟩ = some (.slice r.a r.k r.c) ∧ V.cell? ⟨B1, 2, none⟩ = some (.slice r.b r.j r.d) ∧ V.frozen? ⟨B1, 0, none⟩ = false ∧ V.frozen? ⟨B1, 1, none⟩ = false ∧ V.frozen? ⟨B1, 2, none⟩ = false := fun V hV => box3 hA1 hV
          have HKS := Lib.hid hKS; have HKR := Lib.hid hKR
          have hz1 := hA1.lt
          clear hKS hKR hA1 hC1 cL0 c00 c01 c02 cI0 cH0 cL cH
          have y0 : Ext wr.drew wr.drew.drew := (Ext.refl _).drew
          have hEw : Ext w wr.drew := HE.out.drew
          go_wp2_with fail
          refine wp_region_Y (fun w' => w'.cell? ⟨bl, ol + i, none⟩ = some (.int .i64 l) ∧ w'.cell? ⟨bt, ot + i * 3, none⟩ = some (.bool y.s) ∧ w'.cell? ⟨bt, ot + i * 3 + 1, none⟩ = some (.slice y.a y.k y.c) ∧ w'.cell? ⟨bt, ot + i * 3 + 2, none⟩ = some (.slice y.b y.j y.d)) (fun w' => w'.cell? ⟨B1, 0, none⟩ = some (.bool r.s) ∧ w'.cell? ⟨B1, 1, none⟩ = some (.slice r.a r.k r.c) ∧ w'.cell? ⟨B1, 2, none⟩ = some (.slice r.b r.j r.d) ∧ w'.frozen? ⟨B1, 0, none⟩ = false ∧ w'.frozen? ⟨B1, 1, none⟩ = false ∧ w'.frozen? ⟨B1, 2, none⟩ = false) (fun i => i == 18) (by kernel_rfl) (HKS.out _ (hEw.trans y0)) (HKR.out _ y0) (fun hHeld hFirst => ?_)
          refine wpAnyY_takeR (i := 0) (v := .agg #[.bool r.s, .slice r.a r.k r.c, .slice r.b r.j r.d]) rfl (by kernel_rfl) (by kernel_rfl) (by kernel_rfl) (by kernel_rfl) (by kernel_rfl) (by kernel_rfl) (fun _ _ _ h => h) (Or.inl ⟨by rfl, fun w hSw => by (obtain ⟨hSw, hSr⟩ := hSw; obtain ⟨e0, e1, e2, e3⟩ := hSw; obtain ⟨d0, d1, d2, d3, d4, d5⟩ := hSr; go_simp)⟩) hHeld hFirst ?_
          try simp only [List.getElem_toArray, List.getElem_cons_zero, Act.put, List.setIfInBounds_toArray, List.set_cons_zero, List.set_cons_succ]
          refine wpAnyY_take (i := 1) (v := .slice (some ⟨bt, ot, none⟩) n tc) rfl (by kernel_rfl) (by kernel_rfl) (by kernel_rfl) (by kernel_rfl) (fun _ _ _ h => h) (Or.inl ⟨by rfl, fun w hSw => by (obtain ⟨e0, e1, e2, e3⟩ := hSw; go_simp)⟩) hHeld (Or.inl hFirst) ?_
          try simp only [List.getElem_toArray, List.getElem_cons_succ, List.getElem_cons_zero, Act.put, List.setIfInBounds_toArray, List.set_cons_zero, List.set_cons_succ]
          refine wpAnyY_take (i := 2) (v := .int .i64 (i : Int)) rfl (by kernel_rfl) (by kernel_rfl) (by kernel_rfl) (by kernel_rfl) (fun _ _ _ h => h) (Or.inl ⟨by rfl, fun w hSw => by (obtain ⟨e0, e1, e2, e3⟩ := hSw; go_simp)⟩) hHeld (Or.inl hFirst) ?_
          try simp only [List.getElem_toArray, List.getElem_cons_succ, List.getElem_cons_zero, Act.put, List.setIfInBounds_toArray, List.set_cons_zero, List.set_cons_succ]
          refine wpAnyY_take (i := 3) (v := .pointer (some ⟨bt, ot + i * 3, none⟩)) rfl (by kernel_rfl) (by kernel_rfl) (by kernel_rfl) (by kernel_rfl) (fun _ _ _ h => h) (Or.inl ⟨by rfl, fun w hSw => by (obtain ⟨e0, e1, e2, e3⟩ := hSw; go_simp)⟩) hHeld (Or.inl hFirst) ?_
          try simp only [List.getElem_toArray, List.getElem_cons_succ, List.getElem_cons_zero, Act.put, List.setIfInBounds_toArray, List.set_cons_zero, List.set_cons_succ]
          refine wpAnyY_take (i := 4) (v := .agg #[.bool y.s, .slice y.a y.k y.c, .slice y.b y.j y.d]) rfl (by kernel_rfl) (by kernel_rfl) (by kernel_rfl) (by kernel_rfl) (fun _ _ _ h => h) (Or.inl ⟨by rfl, fun w hSw => by (obtain ⟨e0, e1, e2, e3⟩ := hSw; go_simp)⟩) hHeld (Or.inl hFirst) ?_
          try simp only [List.getElem_toArray, List.getElem_cons_succ, List.getElem_cons_zero, Act.put, List.setIfInBounds_toArray, List.set_cons_zero, List.set_cons_succ]
          refine wpAnyY_take (i := 5) (v := .slice (some ⟨bl, ol, none⟩) n lc) rfl (by kernel_rfl) (by kernel_rfl) (by kernel_rfl) (by kernel_rfl) (fun _ _ _ h => h) (Or.inl ⟨by rfl, fun w hSw => by (obtain ⟨e0, e1, e2, e3⟩ := hSw; go_simp)⟩) hHeld (Or.inl hFirst) ?_
          try simp only [List.getElem_toArray, List.getElem_cons_succ, List.getElem_cons_zero, Act.put, List.setIfInBounds_toArray, List.set_cons_zero, List.set_cons_succ]
          refine wpAnyY_take (i := 6) (v := .int .i64 (i : Int)) rfl (by kernel_rfl) (by kernel_rfl) (by kernel_rfl) (by kernel_rfl) (fun _ _ _ h => h) (Or.inl ⟨by rfl, fun w hSw => by (obtain ⟨e0, e1, e2, e3⟩ := hSw; go_simp)⟩) hHeld (Or.inl hFirst) ?_
          try simp only [List.getElem_toArray, List.getElem_cons_succ, List.getElem_cons_zero, Act.put, List.setIfInBounds_toArray, List.set_cons_zero, List.set_cons_succ]
          refine wpAnyY_take (i := 7) (v := .pointer (some ⟨bl, ol + i, none⟩)) rfl (by kernel_rfl) (by kernel_rfl) (by kernel_rfl) (by kernel_rfl) (fun _ _ _ h => h) (Or.inl ⟨by rfl, fun w hSw => by (obtain ⟨e0, e1, e2, e3⟩ := hSw; go_simp)⟩) hHeld (Or.inl hFirst) ?_
          try simp only [List.getElem_toArray, List.getElem_cons_succ, List.getElem_cons_zero, Act.put, List.setIfInBounds_toArray, List.set_cons_zero, List.set_cons_succ]
          refine wpAnyY_take (i := 8) (v := .int .i64 l) rfl (by kernel_rfl) (by kernel_rfl) (by kernel_rfl) (by kernel_rfl) (fun _ _ _ h => h) (Or.inl ⟨by rfl, fun w hSw => by (obtain ⟨e0, e1, e2, e3⟩ := hSw; go_simp)⟩) hHeld (Or.inl hFirst) ?_
          try simp only [List.getElem_toArray, List.getElem_cons_succ, List.getElem_cons_zero, Act.put, List.setIfInBounds_toArray, List.set_cons_zero, List.set_cons_succ]
          refine wpAnyY_take (i := 12) (v := .int .i64 m) rfl (by kernel_rfl) (by kernel_rfl) (by kernel_rfl) (by kernel_rfl) (fun _ _ _ h => h) (Or.inl ⟨by rfl, fun w hSw => by (obtain ⟨e0, e1, e2, e3⟩ := hSw; go_simp)⟩) hHeld (Or.inl hFirst) ?_
          try simp only [List.getElem_toArray, List.getElem_cons_succ, List.getElem_cons_zero, Act.put, List.setIfInBounds_toArray, List.set_cons_zero, List.set_cons_succ]
          refine wpAnyY_take (i := 13) (v := .slice (some ⟨bl, ol, none⟩) n lc) rfl (by kernel_rfl) (by kernel_rfl) (by kernel_rfl) (by kernel_rfl) (fun _ _ _ h => h) (Or.inl ⟨by rfl, fun w hSw => by (obtain ⟨e0, e1, e2, e3⟩ := hSw; go_simp)⟩) hHeld (Or.inl hFirst) ?_
          try simp only [List.getElem_toArray, List.getElem_cons_succ, List.getElem_cons_zero, Act.put, List.setIfInBounds_toArray, List.set_cons_zero, List.set_cons_succ]
          refine wpAnyY_take (i := 14) (v := .int .i64 (i : Int)) rfl (by kernel_rfl) (by kernel_rfl) (by kernel_rfl) (by kernel_rfl) (fun _ _ _ h => h) (Or.inl ⟨by rfl, fun w hSw => by (obtain ⟨e0, e1, e2, e3⟩ := hSw; go_simp)⟩) hHeld (Or.inl hFirst) ?_
          try simp only [List.getElem_toArray, List.getElem_cons_succ, List.getElem_cons_zero, Act.put, List.setIfInBounds_toArray, List.set_cons_zero, List.set_cons_succ]
          refine wpAnyY_take (i := 15) (v := .pointer (some ⟨bl, ol + i, none⟩)) rfl (by kernel_rfl) (by kernel_rfl) (by kernel_rfl) (by kernel_rfl) (fun _ _ _ h => h) (Or.inl ⟨by rfl, fun w hSw => by (obtain ⟨e0, e1, e2, e3⟩ := hSw; go_simp)⟩) hHeld (Or.inl hFirst) ?_
          try simp only [List.getElem_toArray, List.getElem_cons_succ, List.getElem_cons_zero, Act.put, List.setIfInBounds_toArray, List.set_cons_zero, List.set_cons_succ]
          refine wpAnyY_take (i := 16) (v := .int .i64 l) rfl (by kernel_rfl) (by kernel_rfl) (by kernel_rfl) (by kernel_rfl) (fun _ _ _ h => h) (Or.inl ⟨by rfl, fun w hSw => by (obtain ⟨e0, e1, e2, e3⟩ := hSw; go_simp)⟩) hHeld (Or.inl hFirst) ?_
          try simp only [List.getElem_toArray, List.getElem_cons_succ, List.getElem_cons_zero, Act.put, List.setIfInBounds_toArray, List.set_cons_zero, List.set_cons_succ]
          refine wpAnyY_take (i := 17) (v := .int .i64 (m - l)) rfl (by kernel_rfl) (by kernel_rfl) (by kernel_rfl) (by kernel_rfl) (fun _ _ _ h => h) (Or.inl ⟨by rfl, fun w hSw => by (obtain ⟨e0, e1, e2, e3⟩ := hSw; go_simp)⟩) hHeld (Or.inl hFirst) ?_
          try simp only [List.getElem_toArray, List.getElem_cons_succ, List.getElem_cons_zero, Act.put, List.setIfInBounds_toArray, List.set_cons_zero, List.set_cons_succ]
          refine wpAnyY_ready (rs := [9]) (by kernel_rfl) (by simp) ?_
          refine AllReadyY.cons rfl (fun Kc hK => ?_) AllReadyY.nil
          go_simp
          refine (r3_FromInt _ l (by omega) (by omega)).mono ?_
          intro e z1 hN
          obtain ⟨q1, rfl, hq1, x1⟩ := hN.isCan
          clear hN
          have y1 := y0.trans x1
          refine hK.out _ _ (HKS.out _ (hEw.trans y1)) (HKR.out _ y1) (fun hHeld hFirst => ?_)
          clear hK Kc
          try simp only [List.getElem_toArray, List.getElem_cons_succ, List.getElem_cons_zero, Act.put, List.setIfInBounds_toArray, List.set_cons_zero, List.set_cons_succ]
          refine wpAnyY_ready (rs := [10]) (by kernel_rfl) (by simp) ?_
          refine AllReadyY.cons rfl (fun Kc hK => ?_) AllReadyY.nil
          go_simp
          refine (r3_MulC _ y q L (HQ.out.ext (hEw.trans y1)) hsh.1 hsh.2 _ _ _ hq1 (by omega)).mono ?_
          intro e z2 hN
          obtain ⟨q2, rfl, hq2, x2⟩ := hN.isCan
          clear hN
          have y2 := y1.trans x2
          refine hK.out _ _ (HKS.out _ (hEw.trans y2)) (HKR.out _ y2) (fun hHeld hFirst => ?_)
          clear hK Kc
          try simp only [List.getElem_toArray, List.getElem_cons_succ, List.getElem_cons_zero, Act.put, List.setIfInBounds_toArray, List.set_cons_zero, List.set_cons_succ]
          refine wpAnyY_ready (rs := [11]) (by kernel_rfl) (by simp) ?_
          refine AllReadyY.cons rfl (fun Kc hK => ?_) AllReadyY.nil
          go_simp
          refine (r3_AddC _ r _ _ (HC1.out.ext y2) (by omega) _ _ _ hq2 (by omega)).mono ?_
          intro e z3 hN
          obtain ⟨q3, rfl, hq3, x3⟩ := hN.isCan
          clear hN
          have y3 := y2.trans x3
          refine hK.out _ _ (HKS.out _ (hEw.trans y3)) (HKR.out _ y3) (fun hHeld hFirst => ?_)
          clear hK Kc
          try simp only [List.getElem_toArray, List.getElem_cons_succ, List.getElem_cons_zero, Act.put, List.setIfInBounds_toArray, List.set_cons_zero, List.set_cons_succ]
          obtain ⟨d0, d1, d2, d3, d4, d5⟩ := HKR.out _ y3
          refine wpAnyY_ready (rs := [18]) (by kernel_rfl) (by simp) ?_
          refine AllReadyY.late rfl (by kernel_rfl) (fun Kc hK => ?_) AllReadyY.nil
          go_simp
          refine hK.out _ _ (HKS.out _ (Ext.set3' (hEw.trans y3) (by omega))) (fun hHeld => ?_)
          clear hK Kc
          try simp only [List.getElem_toArray, List.getElem_cons_succ, List.getElem_cons_zero, Act.put, List.setIfInBounds_toArray, List.set_cons_zero, List.set_cons_succ]
          refine wpAnyY_take (i := 19) (v := .int .i64 (m - l)) rfl (by kernel_rfl) (by kernel_rfl) (by kernel_rfl) (by kernel_rfl) (fun _ _ _ h => h) (Or.inl ⟨by rfl, fun w hSw => by (obtain ⟨e0, e1, e2, e3⟩ := hSw; go_simp)⟩) hHeld (Or.inr (by kernel_rfl)) ?_
          try simp only [List.getElem_toArray, List.getElem_cons_succ, List.getElem_cons_zero, Act.put, List.setIfInBounds_toArray, List.set_cons_zero, List.set_cons_succ]
          refine wpAnyY_done (by kernel_rfl) ?_ _
          clear hHeld d0 d1 d2 d3 d4 d5
          have hGz := ((HG.out.ext' (Ext.refl _).drew).ext' y3).setS hb1 hb2 hq3 (by have := y2.size; omega)
          have hGn : Hid (GA w B1 B2 n (msum (atQ qs) (at0 lo) P (i + 1)) (fun j => decide (j < i + 1) && (at0 isl j != k)) (((z3.setCell ⟨B1, 0, none⟩ (.bool q3.s)).setCell ⟨B1, 1, none⟩ (.slice q3.a q3.k q3.c)).setCell ⟨B1, 2, none⟩ (.slice q3.b q3.j q3.d))) :=
            (hGz.value (by rw [HMS.out, if_pos hPt])).congr (fun j hj => by
              by_cases hji : j = i
              · subst hji; simp [hk]
              · have : decide (j < i) = decide (j < i + 1) := by simp; omega
                simp only [this])
          clear hGz
          go_wp2_with fail
          exact ⟨⟨i + 1, by omega, fun j hj hjk => by
            by_cases hji : j = i
            · subst hji; rw [← HL.out, ← HH.out]; omega
            · exact HLE.out j (by omega) hjk, hGn.out, by rw [HMN.out, if_pos hk], by go_num⟩, by simp only [intOf]; omega⟩
      · have hPf : ¬ P i = true := by rw [hPi]; simpa using hk
        have cI := cell_ext hE cI0
        have cU := hG.used.cell i
        rw [bools_get _ _ _ hlt] at cU
        have fU := hG.used.frozen i
        have hGn : Hid (GA w B1 B2 n (msum (atQ qs) (at0 lo) P (i + 1)) (fun j => decide (j < i + 1) && (at0 isl j != k)) (wr.setCell ⟨B2, i, none⟩ (.bool true))) :=
          ((hG.setU hb1 hb2 i true).value (by rw [hms, if_neg hPf, Rat.add_zero])).congr (fun j hj => by
            by_cases hji : j = i
            · subst hji; simp [hk]
            · have : decide (j < i) = decide (j < i + 1) := by simp; omega
              simp only [this, if_neg hji])
        obtain ⟨c, hc⟩ : ∃ c, c = at0 isl i := ⟨_, rfl⟩
        have t1 : (c != k) = true := by rw [hc]; simpa using hk
        rw [← hc] at cI cI0
        have HNK := Lib.hid hk
        clear hc hk
        clear hG hle hms hmn hm hq' eI eL eH eQ hPi hq
        go_wp2_with fail
        exact ⟨⟨i + 1, by omega, fun j hj hjk => by
          by_cases hji : j = i
          · subst hji; exact absurd hjk HNK.out
          · exact HLE.out j (by omega) hjk, hGn.out, by rw [HMN.out, if_neg HNK.out, Int.sub_zero], by go_num⟩, by simp only [intOf]; omega⟩
    · obtain rfl : n = i := by omega
      have hG1 : GA w B1 B2 n (msum (atQ qs) (at0 lo) P n) (fun j => at0 isl j != k) wr := hG.congr (fun j hj => by simp [hj])
      have hmb := missF_bound (at0 lo) (at0 isl) k n (by omega) (fun j hj => (HB.out j hj).1)
      have hst : WhAt w B1 B2 n (atQ qs) (at0 isl) (at0 lo) (at0 hi) k P (missF (at0 lo) (at0 isl) n k) wr := by
        by_cases h0 : 0 ≤ missF (at0 lo) (at0 isl) n k
        · exact ⟨at0 lo, _, Or.inl (GrAt.start hle h0), hG1⟩
        · exact ⟨at0 lo, _, Or.inr ⟨by omega, rfl⟩, hG1⟩
      have HST := Lib.hid hst
      clear hG hG1 hle hst hi0 hlt
      generalize missF (at0 lo) (at0 isl) n k = m0 at *
      go_wp2_with fail
      go_loopw [13] (fun vn wl => ∃ m : Int, -42949672960 ≤ m ∧ m ≤ 42949672960 ∧ WhAt w B1 B2 n (atQ qs) (at0 isl) (at0 lo) (at0 hi) k P m wl ∧ vn = .int .i64 m) (fun _ wl => cntW wl B2 n)
      case atStart => exact ⟨m0, hmb.1, hmb.2, HST.out, rfl⟩
      case round =>
        obtain ⟨m, hm1, hm2, ⟨x, u, hx, hG⟩, rfl⟩ := hrel
        clear HST
        by_cases hpos : 0 < m
        · have hGr : GrAt n (atQ qs) (at0 isl) (at0 lo) (at0 hi) k x u m := hx.resolve_right (by omega)
          have t0 : decide (0 < m) = true := by simpa using hpos
          have HGr := Lib.hid hGr; have HG := Lib.hid hG
          have hBs := BestOf.start (atQ qs) u
          have HBs := Lib.hid hBs
          have hcw := hG.count
          have HCW := Lib.hid hcw
          clear hx hGr hG hBs hcw
          go_wp2_with fail
          go_loopw [16, 17] (fun vb ii wl => ∃ (i : Nat) (b : Int), i ≤ n ∧ BestOf (atQ qs) u i b ∧ GA w B1 B2 n (msum (atQ qs) x P n) u wl ∧ vb = .int .i64 b ∧ ii = .int .i64 i) (fun _ ii _ => n - (intOf ii).toNat)
          case atStart => exact ⟨0, -1, Nat.zero_le _, HBs.out, HG.out, rfl, rfl⟩
          case round =>
            obtain ⟨i, b, hi0, hB, hG, rfl, rfl⟩ := hrel
            clear HBs HG
            by_cases hlt : i < n
            · have hE := hG.ext
              have cU := hG.used.cell i
              rw [bools_get _ _ _ hlt] at cU
              have HB1 := Lib.hid hB; have HG := Lib.hid hG
              have bi0 : (0 : Int) ≤ (i : Int) := by omega
              have bi1 : (i : Int) < (n : Int) := by omega
              cases hu : u i with
              | true =>
                rw [hu] at cU
                have hnx : Hid (BestOf (atQ qs) u (i + 1) b) := hB.skip hu
                have hGn : Hid (GA w B1 B2 n (msum (atQ qs) x P n) u wr.drew) := hG.ext' (Ext.refl _).drew
                clear hB hG hE
                go_wp2_with fail
                refine wp_region_Y (fun w' => w'.cell? ⟨B2, i, none⟩ = some (.bool true)) (fun w' => True) (fun i => false) (by kernel_rfl) (cU) (trivial) (fun hHeld hFirst => ?_)
                refine wpAnyY_take (i := 0) (v := .slice (some ⟨B2, 0, none⟩) n n) rfl (by kernel_rfl) (by kernel_rfl) (by kernel_rfl) (by kernel_rfl) (fun _ _ _ h => h) (Or.inl ⟨by rfl, fun w hSw => by (have e0 := hSw; go_simp)⟩) hHeld (Or.inl hFirst) ?_
                try simp only [List.getElem_toArray, List.getElem_cons_zero, Act.put, List.setIfInBounds_toArray, List.set_cons_zero, List.set_cons_succ]
                refine wpAnyY_take (i := 1) (v := .int .i64 (i : Int)) rfl (by kernel_rfl) (by kernel_rfl) (by kernel_rfl) (by kernel_rfl) (fun _ _ _ h => h) (Or.inl ⟨by rfl, fun w hSw => by (have e0 := hSw; go_simp)⟩) hHeld (Or.inl hFirst) ?_
                try simp only [List.getElem_toArray, List.getElem_cons_succ, List.getElem_cons_zero, Act.put, List.setIfInBounds_toArray, List.set_cons_zero, List.set_cons_succ]
                refine wpAnyY_take (i := 2) (v := .pointer (some ⟨B2, i, none⟩)) rfl (by kernel_rfl) (by kernel_rfl) (by kernel_rfl) (by kernel_rfl) (fun _ _ _ h => h) (Or.inl ⟨by rfl, fun w hSw => by (have e0 := hSw; go_simp)⟩) hHeld (Or.inl hFirst) ?_
                try simp only [List.getElem_toArray, List.getElem_cons_succ, List.getElem_cons_zero, Act.put, List.setIfInBounds_toArray, List.set_cons_zero, List.set_cons_succ]
                refine wpAnyY_take (i := 3) (v := .bool true) rfl (by kernel_rfl) (by kernel_rfl) (by kernel_rfl) (by kernel_rfl) (fun _ _ _ h => h) (Or.inl ⟨by rfl, fun w hSw => by (have e0 := hSw; go_simp)⟩) hHeld (Or.inl hFirst) ?_
                try simp only [List.getElem_toArray, List.getElem_cons_succ, List.getElem_cons_zero, Act.put, List.setIfInBounds_toArray, List.set_cons_zero, List.set_cons_succ]
                refine wpAnyY_take (i := 4) (v := .bool false) rfl (by kernel_rfl) (by kernel_rfl) (by kernel_rfl) (by kernel_rfl) (fun _ _ _ h => h) (Or.inl ⟨by rfl, fun w hSw => by (have e0 := hSw; go_simp)⟩) hHeld (Or.inl hFirst) ?_
                try simp only [List.getElem_toArray, List.getElem_cons_succ, List.getElem_cons_zero, Act.put, List.setIfInBounds_toArray, List.set_cons_zero, List.set_cons_succ]
                refine wpAnyY_take (i := 5) (v := .bool false) rfl (by kernel_rfl) (by kernel_rfl) (by kernel_rfl) (by kernel_rfl) (fun _ _ _ h => h) (Or.inl ⟨by rfl, fun w hSw => by (have e0 := hSw; go_simp)⟩) hHeld (Or.inl hFirst) ?_
                try simp only [List.getElem_toArray, List.getElem_cons_succ, List.getElem_cons_zero, Act.put, List.setIfInBounds_toArray, List.set_cons_zero, List.set_cons_succ]
                refine wpAnyY_take (i := 6) (v := undef) rfl (by kernel_rfl) (by kernel_rfl) (by kernel_rfl) (by kernel_rfl) (fun _ _ _ h => h) (Or.inr ⟨by rfl, rfl⟩) hHeld (Or.inl hFirst) ?_
                try simp only [List.getElem_toArray, List.getElem_cons_succ, List.getElem_cons_zero, Act.put, List.setIfInBounds_toArray, List.set_cons_zero, List.set_cons_succ]
                refine wpAnyY_take (i := 7) (v := undef) rfl (by kernel_rfl) (by kernel_rfl) (by kernel_rfl) (by kernel_rfl) (fun _ _ _ h => h) (Or.inr ⟨by rfl, rfl⟩) hHeld (Or.inl hFirst) ?_
                try simp only [List.getElem_toArray, List.getElem_cons_succ, List.getElem_cons_zero, Act.put, List.setIfInBounds_toArray, List.set_cons_zero, List.set_cons_succ]
                refine wpAnyY_take (i := 8) (v := undef) rfl (by kernel_rfl) (by kernel_rfl) (by kernel_rfl) (by kernel_rfl) (fun _ _ _ h => h) (Or.inr ⟨by rfl, rfl⟩) hHeld (Or.inl hFirst) ?_
                try simp only [List.getElem_toArray, List.getElem_cons_succ, List.getElem_cons_zero, Act.put, List.setIfInBounds_toArray, List.set_cons_zero, List.set_cons_succ]
                refine wpAnyY_take (i := 9) (v := undef) rfl (by kernel_rfl) (by kernel_rfl) (by kernel_rfl) (by kernel_rfl) (fun _ _ _ h => h) (Or.inr ⟨by rfl, rfl⟩) hHeld (Or.inl hFirst) ?_
                try simp only [List.getElem_toArray, List.getElem_cons_succ, List.getElem_cons_zero, Act.put, List.setIfInBounds_toArray, List.set_cons_zero, List.set_cons_succ]
                refine wpAnyY_take (i := 10) (v := undef) rfl (by kernel_rfl) (by kernel_rfl) (by kernel_rfl) (by kernel_rfl) (fun _ _ _ h => h) (Or.inr ⟨by rfl, rfl⟩) hHeld (Or.inl hFirst) ?_
                try simp only [List.getElem_toArray, List.getElem_cons_succ, List.getElem_cons_zero, Act.put, List.setIfInBounds_toArray, List.set_cons_zero, List.set_cons_succ]
                refine wpAnyY_take (i := 11) (v := undef) rfl (by kernel_rfl) (by kernel_rfl) (by kernel_rfl) (by kernel_rfl) (fun _ _ _ h => h) (Or.inr ⟨by rfl, rfl⟩) hHeld (Or.inl hFirst) ?_
                try simp only [List.getElem_toArray, List.getElem_cons_succ, List.getElem_cons_zero, Act.put, List.setIfInBounds_toArray, List.set_cons_zero, List.set_cons_succ]
                refine wpAnyY_take (i := 12) (v := undef) rfl (by kernel_rfl) (by kernel_rfl) (by kernel_rfl) (by kernel_rfl) (fun _ _ _ h => h) (Or.inr ⟨by rfl, rfl⟩) hHeld (Or.inl hFirst) ?_
                try simp only [List.getElem_toArray, List.getElem_cons_succ, List.getElem_cons_zero, Act.put, List.setIfInBounds_toArray, List.set_cons_zero, List.set_cons_succ]
                refine wpAnyY_take (i := 13) (v := undef) rfl (by kernel_rfl) (by kernel_rfl) (by kernel_rfl) (by kernel_rfl) (fun _ _ _ h => h) (Or.inr ⟨by rfl, rfl⟩) hHeld (Or.inl hFirst) ?_
                try simp only [List.getElem_toArray, List.getElem_cons_succ, List.getElem_cons_zero, Act.put, List.setIfInBounds_toArray, List.set_cons_zero, List.set_cons_succ]
                refine wpAnyY_take (i := 14) (v := undef) rfl (by kernel_rfl) (by kernel_rfl) (by kernel_rfl) (by kernel_rfl) (fun _ _ _ h => h) (Or.inr ⟨by rfl, rfl⟩) hHeld (Or.inl hFirst) ?_
                try simp only [List.getElem_toArray, List.getElem_cons_succ, List.getElem_cons_zero, Act.put, List.setIfInBounds_toArray, List.set_cons_zero, List.set_cons_succ]
                refine wpAnyY_take (i := 15) (v := undef) rfl (by kernel_rfl) (by kernel_rfl) (by kernel_rfl) (by kernel_rfl) (fun _ _ _ h => h) (Or.inr ⟨by rfl, rfl⟩) hHeld (Or.inl hFirst) ?_
                try simp only [List.getElem_toArray, List.getElem_cons_succ, List.getElem_cons_zero, Act.put, List.setIfInBounds_toArray, List.set_cons_zero, List.set_cons_succ]
                refine wpAnyY_take (i := 16) (v := undef) rfl (by kernel_rfl) (by kernel_rfl) (by kernel_rfl) (by kernel_rfl) (fun _ _ _ h => h) (Or.inr ⟨by rfl, rfl⟩) hHeld (Or.inl hFirst) ?_
                try simp only [List.getElem_toArray, List.getElem_cons_succ, List.getElem_cons_zero, Act.put, List.setIfInBounds_toArray, List.set_cons_zero, List.set_cons_succ]
                refine wpAnyY_take (i := 17) (v := undef) rfl (by kernel_rfl) (by kernel_rfl) (by kernel_rfl) (by kernel_rfl) (fun _ _ _ h => h) (Or.inr ⟨by rfl, rfl⟩) hHeld (Or.inl hFirst) ?_
                try simp only [List.getElem_toArray, List.getElem_cons_succ, List.getElem_cons_zero, Act.put, List.setIfInBounds_toArray, List.set_cons_zero, List.set_cons_succ]
                refine wpAnyY_take (i := 18) (v := undef) rfl (by kernel_rfl) (by kernel_rfl) (by kernel_rfl) (by kernel_rfl) (fun _ _ _ h => h) (Or.inr ⟨by rfl, rfl⟩) hHeld (Or.inl hFirst) ?_
                try simp only [List.getElem_toArray, List.getElem_cons_succ, List.getElem_cons_zero, Act.put, List.setIfInBounds_toArray, List.set_cons_zero, List.set_cons_succ]
                refine wpAnyY_take (i := 19) (v := undef) rfl (by kernel_rfl) (by kernel_rfl) (by kernel_rfl) (by kernel_rfl) (fun _ _ _ h => h) (Or.inr ⟨by rfl, rfl⟩) hHeld (Or.inl hFirst) ?_
                try simp only [List.getElem_toArray, List.getElem_cons_succ, List.getElem_cons_zero, Act.put, List.setIfInBounds_toArray, List.set_cons_zero, List.set_cons_succ]
                refine wpAnyY_take (i := 20) (v := .bool false) rfl (by kernel_rfl) (by kernel_rfl) (by kernel_rfl) (by kernel_rfl) (fun _ _ _ h => h) (Or.inl ⟨by rfl, fun w hSw => by (have e0 := hSw; go_simp)⟩) hHeld (Or.inl hFirst) ?_
                try simp only [List.getElem_toArray, List.getElem_cons_succ, List.getElem_cons_zero, Act.put, List.setIfInBounds_toArray, List.set_cons_zero, List.set_cons_succ]
                refine wpAnyY_done (by kernel_rfl) ?_ _
                clear hHeld hFirst
                clear cU
                go_wp2_with fail
                exact ⟨⟨i + 1, b, by omega, hnx.out, hGn.out, rfl, by go_num⟩, by simp only [intOf]; omega⟩
              | false =>
                rw [hu] at cU
                by_cases hb0 : b = -1
                · subst hb0
                  have hnx : Hid (BestOf (atQ qs) u (i + 1) (i : Int)) := hB.first hu
                  have hGn : Hid (GA w B1 B2 n (msum (atQ qs) x P n) u wr.drew) := hG.ext' (Ext.refl _).drew
                  clear hB hG hE
                  go_wp2_with fail
                  refine wp_region_Y (fun w' => w'.cell? ⟨B2, i, none⟩ = some (.bool false)) (fun w' => True) (fun i => false) (by kernel_rfl) (cU) (trivial) (fun hHeld hFirst => ?_)
                  refine wpAnyY_take (i := 0) (v := .slice (some ⟨B2, 0, none⟩) n n) rfl (by kernel_rfl) (by kernel_rfl) (by kernel_rfl) (by kernel_rfl) (fun _ _ _ h => h) (Or.inl ⟨by rfl, fun w hSw => by (have e0 := hSw; go_simp)⟩) hHeld (Or.inl hFirst) ?_
                  try simp only [List.getElem_toArray, List.getElem_cons_zero, Act.put, List.setIfInBounds_toArray, List.set_cons_zero, List.set_cons_succ]
                  refine wpAnyY_take (i := 1) (v := .int .i64 (i : Int)) rfl (by kernel_rfl) (by kernel_rfl) (by kernel_rfl) (by kernel_rfl) (fun _ _ _ h => h) (Or.inl ⟨by rfl, fun w hSw => by (have e0 := hSw; go_simp)⟩) hHeld (Or.inl hFirst) ?_
                  try simp only [List.getElem_toArray, List.getElem_cons_succ, List.getElem_cons_zero, Act.put, List.setIfInBounds_toArray, List.set_cons_zero, List.set_cons_succ]
                  refine wpAnyY_take (i := 2) (v := .pointer (some ⟨B2, i, none⟩)) rfl (by kernel_rfl) (by kernel_rfl) (by kernel_rfl) (by kernel_rfl) (fun _ _ _ h => h) (Or.inl ⟨by rfl, fun w hSw => by (have e0 := hSw; go_simp)⟩) hHeld (Or.inl hFirst) ?_
                  try simp only [List.getElem_toArray, List.getElem_cons_succ, List.getElem_cons_zero, Act.put, List.setIfInBounds_toArray, List.set_cons_zero, List.set_cons_succ]
                  refine wpAnyY_take (i := 3) (v := .bool false) rfl (by kernel_rfl) (by kernel_rfl) (by kernel_rfl) (by kernel_rfl) (fun _ _ _ h => h) (Or.inl ⟨by rfl, fun w hSw => by (have e0 := hSw; go_simp)⟩) hHeld (Or.inl hFirst) ?_
                  try simp only [List.getElem_toArray, List.getElem_cons_succ, List.getElem_cons_zero, Act.put, List.setIfInBounds_toArray, List.set_cons_zero, List.set_cons_succ]
                  refine wpAnyY_take (i := 4) (v := .bool true) rfl (by kernel_rfl) (by kernel_rfl) (by kernel_rfl) (by kernel_rfl) (fun _ _ _ h => h) (Or.inl ⟨by rfl, fun w hSw => by (have e0 := hSw; go_simp)⟩) hHeld (Or.inl hFirst) ?_
                  try simp only [List.getElem_toArray, List.getElem_cons_succ, List.getElem_cons_zero, Act.put, List.setIfInBounds_toArray, List.set_cons_zero, List.set_cons_succ]
                  refine wpAnyY_take (i := 5) (v := .bool true) rfl (by kernel_rfl) (by kernel_rfl) (by kernel_rfl) (by kernel_rfl) (fun _ _ _ h => h) (Or.inl ⟨by rfl, fun w hSw => by (have e0 := hSw; go_simp)⟩) hHeld (Or.inl hFirst) ?_
                  try simp only [List.getElem_toArray, List.getElem_cons_succ, List.getElem_cons_zero, Act.put, List.setIfInBounds_toArray, List.set_cons_zero, List.set_cons_succ]
                  refine wpAnyY_take (i := 6) (v := .int .i64 (-1)) rfl (by kernel_rfl) (by kernel_rfl) (by kernel_rfl) (by kernel_rfl) (fun _ _ _ h => h) (Or.inl ⟨by rfl, fun w hSw => by (have e0 := hSw; go_simp)⟩) hHeld (Or.inl hFirst) ?_
                  try simp only [List.getElem_toArray, List.getElem_cons_succ, List.getElem_cons_zero, Act.put, List.setIfInBounds_toArray, List.set_cons_zero, List.set_cons_succ]
                  refine wpAnyY_take (i := 7) (v := .bool true) rfl (by kernel_rfl) (by kernel_rfl) (by kernel_rfl) (by kernel_rfl) (fun _ _ _ h => h) (Or.inl ⟨by rfl, fun w hSw => by (have e0 := hSw; go_simp)⟩) hHeld (Or.inl hFirst) ?_
                  try simp only [List.getElem_toArray, List.getElem_cons_succ, List.getElem_cons_zero, Act.put, List.setIfInBounds_toArray, List.set_cons_zero, List.set_cons_succ]
                  refine wpAnyY_take (i := 8) (v := .bool true) rfl (by kernel_rfl) (by kernel_rfl) (by kernel_rfl) (by kernel_rfl) (fun _ _ _ h => h) (Or.inl ⟨by rfl, fun w hSw => by (have e0 := hSw; go_simp)⟩) hHeld (Or.inl hFirst) ?_
                  try simp only [List.getElem_toArray, List.getElem_cons_succ, List.getElem_cons_zero, Act.put, List.setIfInBounds_toArray, List.set_cons_zero, List.set_cons_succ]
                  refine wpAnyY_take (i := 9) (v := undef) rfl (by kernel_rfl) (by kernel_rfl) (by kernel_rfl) (by kernel_rfl) (fun _ _ _ h => h) (Or.inr ⟨by rfl, rfl⟩) hHeld (Or.inl hFirst) ?_
                  try simp only [List.getElem_toArray, List.getElem_cons_succ, List.getElem_cons_zero, Act.put, List.setIfInBounds_toArray, List.set_cons_zero, List.set_cons_succ]
                  refine wpAnyY_take (i := 10) (v := undef) rfl (by kernel_rfl) (by kernel_rfl) (by kernel_rfl) (by kernel_rfl) (fun _ _ _ h => h) (Or.inr ⟨by rfl, rfl⟩) hHeld (Or.inl hFirst) ?_
                  try simp only [List.getElem_toArray, List.getElem_cons_succ, List.getElem_cons_zero, Act.put, List.setIfInBounds_toArray, List.set_cons_zero, List.set_cons_succ]
                  refine wpAnyY_take (i := 11) (v := undef) rfl (by kernel_rfl) (by kernel_rfl) (by kernel_rfl) (by kernel_rfl) (fun _ _ _ h => h) (Or.inr ⟨by rfl, rfl⟩) hHeld (Or.inl hFirst) ?_
                  try simp only [List.getElem_toArray, List.getElem_cons_succ, List.getElem_cons_zero, Act.put, List.setIfInBounds_toArray, List.set_cons_zero, List.set_cons_succ]
                  refine wpAnyY_take (i := 12) (v := undef) rfl (by kernel_rfl) (by kernel_rfl) (by kernel_rfl) (by kernel_rfl) (fun _ _ _ h => h) (Or.inr ⟨by rfl, rfl⟩) hHeld (Or.inl hFirst) ?_
                  try simp only [List.getElem_toArray, List.getElem_cons_succ, List.getElem_cons_zero, Act.put, List.setIfInBounds_toArray, List.set_cons_zero, List.set_cons_succ]
                  refine wpAnyY_take (i := 13) (v := undef) rfl (by kernel_rfl) (by kernel_rfl) (by kernel_rfl) (by kernel_rfl) (fun _ _ _ h => h) (Or.inr ⟨by rfl, rfl⟩) hHeld (Or.inl hFirst) ?_
                  try simp only [List.getElem_toArray, List.getElem_cons_succ, List.getElem_cons_zero, Act.put, List.setIfInBounds_toArray, List.set_cons_zero, List.set_cons_succ]
                  refine wpAnyY_take (i := 14) (v := undef) rfl (by kernel_rfl) (by kernel_rfl) (by kernel_rfl) (by kernel_rfl) (fun _ _ _ h => h) (Or.inr ⟨by rfl, rfl⟩) hHeld (Or.inl hFirst) ?_
                  try simp only [List.getElem_toArray, List.getElem_cons_succ, List.getElem_cons_zero, Act.put, List.setIfInBounds_toArray, List.set_cons_zero, List.set_cons_succ]
                  refine wpAnyY_take (i := 15) (v := undef) rfl (by kernel_rfl) (by kernel_rfl) (by kernel_rfl) (by kernel_rfl) (fun _ _ _ h => h) (Or.inr ⟨by rfl, rfl⟩) hHeld (Or.inl hFirst) ?_
                  try simp only [List.getElem_toArray, List.getElem_cons_succ, List.getElem_cons_zero, Act.put, List.setIfInBounds_toArray, List.set_cons_zero, List.set_cons_succ]
                  refine wpAnyY_take (i := 16) (v := undef) rfl (by kernel_rfl) (by kernel_rfl) (by kernel_rfl) (by kernel_rfl) (fun _ _ _ h => h) (Or.inr ⟨by rfl, rfl⟩) hHeld (Or.inl hFirst) ?_
                  try simp only [List.getElem_toArray, List.getElem_cons_succ, List.getElem_cons_zero, Act.put, List.setIfInBounds_toArray, List.set_cons_zero, List.set_cons_succ]
                  refine wpAnyY_take (i := 17) (v := undef) rfl (by kernel_rfl) (by kernel_rfl) (by kernel_rfl) (by kernel_rfl) (fun _ _ _ h => h) (Or.inr ⟨by rfl, rfl⟩) hHeld (Or.inl hFirst) ?_
                  try simp only [List.getElem_toArray, List.getElem_cons_succ, List.getElem_cons_zero, Act.put, List.setIfInBounds_toArray, List.set_cons_zero, List.set_cons_succ]
                  refine wpAnyY_take (i := 18) (v := undef) rfl (by kernel_rfl) (by kernel_rfl) (by kernel_rfl) (by kernel_rfl) (fun _ _ _ h => h) (Or.inr ⟨by rfl, rfl⟩) hHeld (Or.inl hFirst) ?_
                  try simp only [List.getElem_toArray, List.getElem_cons_succ, List.getElem_cons_zero, Act.put, List.setIfInBounds_toArray, List.set_cons_zero, List.set_cons_succ]
                  refine wpAnyY_take (i := 19) (v := .bool true) rfl (by kernel_rfl) (by kernel_rfl) (by kernel_rfl) (by kernel_rfl) (fun _ _ _ h => h) (Or.inl ⟨by rfl, fun w hSw => by (have e0 := hSw; go_simp)⟩) hHeld (Or.inl hFirst) ?_
                  try simp only [List.getElem_toArray, List.getElem_cons_succ, List.getElem_cons_zero, Act.put, List.setIfInBounds_toArray, List.set_cons_zero, List.set_cons_succ]
                  refine wpAnyY_take (i := 20) (v := .bool true) rfl (by kernel_rfl) (by kernel_rfl) (by kernel_rfl) (by kernel_rfl) (fun _ _ _ h => h) (Or.inl ⟨by rfl, fun w hSw => by (have e0 := hSw; go_simp)⟩) hHeld (Or.inl hFirst) ?_
                  try simp only [List.getElem_toArray, List.getElem_cons_succ, List.getElem_cons_zero, Act.put, List.setIfInBounds_toArray, List.set_cons_zero, List.set_cons_succ]
                  refine wpAnyY_done (by kernel_rfl) ?_ _
                  clear hHeld hFirst
                  clear cU
                  go_wp2_with fail
                  exact ⟨⟨i + 1, _, by omega, hnx.out, hGn.out, rfl, by go_num⟩, by simp only [intOf]; omega⟩
                · obtain ⟨p, rfl, hp⟩ : ∃ p : Nat, b = (p : Int) ∧ p < n := by
                    rcases hB with ⟨e, _⟩ | ⟨p, e, h1, _⟩
                    · exact absurd e hb0
                    · exact ⟨p, e, by omega⟩
                  obtain ⟨bt, ot, rfl, a00, a01, a02⟩ := HR.out.cell i (by omega)
                  obtain ⟨bt', ot', e', b00, b01, b02⟩ := HR.out.cell p (by omega)
                  cases e'
                  have hqi := HR.out.num i (by omega)
                  have hqp := HR.out.num p (by omega)
                  have hsi := HS.out i (by omega)
                  have hsp := HS.out p (by omega)
                  have eQi : atQ qs i = qs[i]'(by rw [HR.out.len]; omega) := atQ_eq (by rw [HR.out.len]; omega)
                  have eQp : atQ qs p = qs[p]'(by rw [HR.out.len]; omega) := atQ_eq (by rw [HR.out.len]; omega)
                  rw [← eQi] at hqi; rw [← eQp] at hqp
                  generalize rs[i] = y at *
                  generalize rs[p] = y' at *
                  have hCm : ∀ V, Ext w V → Calls Tryz.prog 28 #[.agg #[.bool y.s, .slice y.a y.k y.c, .slice y.b y.j y.d], .agg #[.bool y'.s, .slice y'.a y'.k y'.c, .slice y'.b y'.j y'.d]] V fun e w' => e = .returned (.int .i64 (cmpQ (atQ qs i) (atQ qs p))) ∧ Ext V w' := fun V hV =>
                    r3_CmpI V y _ L (hqi.ext hV) (by omega) (by omega) y' _ L (hqp.ext hV) (by omega) (by omega)
                  have hnx : Hid (BestOf (atQ qs) u (i + 1) (if 0 < cmpQ (atQ qs i) (atQ qs p) then (i : Int) else (p : Int))) := by
                    show BestOf _ _ _ _
                    split
                    · rename_i h; exact hB.more hu (cmpQ_gt.1 h)
                    · rename_i h; exact hB.stay (fun h5 => h (cmpQ_gt.2 h5))
                  generalize cmpQ (atQ qs i) (atQ qs p) = z at *
                  have HCm := Lib.hid hCm
                  have HE := Lib.hid hE
                  have hKS : ∀ V, Ext wr V → V.cell? ⟨B2, i, none⟩ = some (.bool false) ∧ V.cell? ⟨bt, ot + i * 3, none⟩ = some (.bool y.s) ∧ V.cell? ⟨bt, ot + i * 3 + 1, none⟩ = some (.slice y.a y.k y.c) ∧ V.cell? ⟨bt, ot + i * 3 + 2, none⟩ = some (.slice y.b y.j y.d) ∧ V.cell? ⟨bt, ot + p * 3, none⟩ = some (.bool y'.s) ∧ V.cell? ⟨bt, ot + p * 3 + 1, none⟩ = some (.slice y'.a y'.k y'.c) ∧ V.cell? ⟨bt, ot + p * 3 + 2, none⟩ = some (.slice y'.b y'.j y'.d) := fun V hV => ⟨cell_ext hV cU, cell_ext (hE.trans hV) a00, cell_ext (hE.trans hV) a01, cell_ext (hE.trans hV) a02, cell_ext (hE.trans hV) b00, cell_ext (hE.trans hV) b01, cell_ext (hE.trans hV) b02⟩
                  have HKS := Lib.hid hKS
                  have bp0 : (0 : Int) ≤ (p : Int) := by omega
                  have bp1 : (p : Int) < (n : Int) := by omega
                  have tp : decide ((p : Int) < 0) = false := by simp
                  have y0 : Ext wr wr.drew := (Ext.refl _).drew
                  clear hB hG hE hCm hKS cU a00 a01 a02 b00 b01 b02 hqi hqp eQi eQp
                  go_wp2_with fail
                  refine wp_region_Y (fun w' => w'.cell? ⟨B2, i, none⟩ = some (.bool false) ∧ w'.cell? ⟨bt, ot + i * 3, none⟩ = some (.bool y.s) ∧ w'.cell? ⟨bt, ot + i * 3 + 1, none⟩ = some (.slice y.a y.k y.c) ∧ w'.cell? ⟨bt, ot + i * 3 + 2, none⟩ = some (.slice y.b y.j y.d) ∧ w'.cell? ⟨bt, ot + p * 3, none⟩ = some (.bool y'.s) ∧ w'.cell? ⟨bt, ot + p * 3 + 1, none⟩ = some (.slice y'.a y'.k y'.c) ∧ w'.cell? ⟨bt, ot + p * 3 + 2, none⟩ = some (.slice y'.b y'.j y'.d)) (fun w' => True) (fun i => false) (by kernel_rfl) (HKS.out _ y0) (trivial) (fun hHeld hFirst => ?_)
                  refine wpAnyY_take (i := 0) (v := .slice (some ⟨B2, 0, none⟩) n n) rfl (by kernel_rfl) (by kernel_rfl) (by kernel_rfl) (by kernel_rfl) (fun _ _ _ h => h) (Or.inl ⟨by rfl, fun w hSw => by (obtain ⟨e0, e1, e2, e3, e4, e5, e6⟩ := hSw; go_simp)⟩) hHeld (Or.inl hFirst) ?_
                  try simp only [List.getElem_toArray, List.getElem_cons_zero, Act.put, List.setIfInBounds_toArray, List.set_cons_zero, List.set_cons_succ]
                  refine wpAnyY_take (i := 1) (v := .int .i64 (i : Int)) rfl (by kernel_rfl) (by kernel_rfl) (by kernel_rfl) (by kernel_rfl) (fun _ _ _ h => h) (Or.inl ⟨by rfl, fun w hSw => by (obtain ⟨e0, e1, e2, e3, e4, e5, e6⟩ := hSw; go_simp)⟩) hHeld (Or.inl hFirst) ?_
                  try simp only [List.getElem_toArray, List.getElem_cons_succ, List.getElem_cons_zero, Act.put, List.setIfInBounds_toArray, List.set_cons_zero, List.set_cons_succ]
                  refine wpAnyY_take (i := 2) (v := .pointer (some ⟨B2, i, none⟩)) rfl (by kernel_rfl) (by kernel_rfl) (by kernel_rfl) (by kernel_rfl) (fun _ _ _ h => h) (Or.inl ⟨by rfl, fun w hSw => by (obtain ⟨e0, e1, e2, e3, e4, e5, e6⟩ := hSw; go_simp)⟩) hHeld (Or.inl hFirst) ?_
                  try simp only [List.getElem_toArray, List.getElem_cons_succ, List.getElem_cons_zero, Act.put, List.setIfInBounds_toArray, List.set_cons_zero, List.set_cons_succ]
                  refine wpAnyY_take (i := 3) (v := .bool false) rfl (by kernel_rfl) (by kernel_rfl) (by kernel_rfl) (by kernel_rfl) (fun _ _ _ h => h) (Or.inl ⟨by rfl, fun w hSw => by (obtain ⟨e0, e1, e2, e3, e4, e5, e6⟩ := hSw; go_simp)⟩) hHeld (Or.inl hFirst) ?_
                  try simp only [List.getElem_toArray, List.getElem_cons_succ, List.getElem_cons_zero, Act.put, List.setIfInBounds_toArray, List.set_cons_zero, List.set_cons_succ]
                  refine wpAnyY_take (i := 4) (v := .bool true) rfl (by kernel_rfl) (by kernel_rfl) (by kernel_rfl) (by kernel_rfl) (fun _ _ _ h => h) (Or.inl ⟨by rfl, fun w hSw => by (obtain ⟨e0, e1, e2, e3, e4, e5, e6⟩ := hSw; go_simp)⟩) hHeld (Or.inl hFirst) ?_
                  try simp only [List.getElem_toArray, List.getElem_cons_succ, List.getElem_cons_zero, Act.put, List.setIfInBounds_toArray, List.set_cons_zero, List.set_cons_succ]
                  refine wpAnyY_take (i := 5) (v := .bool true) rfl (by kernel_rfl) (by kernel_rfl) (by kernel_rfl) (by kernel_rfl) (fun _ _ _ h => h) (Or.inl ⟨by rfl, fun w hSw => by (obtain ⟨e0, e1, e2, e3, e4, e5, e6⟩ := hSw; go_simp)⟩) hHeld (Or.inl hFirst) ?_
                  try simp only [List.getElem_toArray, List.getElem_cons_succ, List.getElem_cons_zero, Act.put, List.setIfInBounds_toArray, List.set_cons_zero, List.set_cons_succ]
                  refine wpAnyY_take (i := 6) (v := .int .i64 (p : Int)) rfl (by kernel_rfl) (by kernel_rfl) (by kernel_rfl) (by kernel_rfl) (fun _ _ _ h => h) (Or.inl ⟨by rfl, fun w hSw => by (obtain ⟨e0, e1, e2, e3, e4, e5, e6⟩ := hSw; go_simp)⟩) hHeld (Or.inl hFirst) ?_
                  try simp only [List.getElem_toArray, List.getElem_cons_succ, List.getElem_cons_zero, Act.put, List.setIfInBounds_toArray, List.set_cons_zero, List.set_cons_succ]
                  refine wpAnyY_take (i := 7) (v := .bool false) rfl (by kernel_rfl) (by kernel_rfl) (by kernel_rfl) (by kernel_rfl) (fun _ _ _ h => h) (Or.inl ⟨by rfl, fun w hSw => by (obtain ⟨e0, e1, e2, e3, e4, e5, e6⟩ := hSw; go_simp)⟩) hHeld (Or.inl hFirst) ?_
                  try simp only [List.getElem_toArray, List.getElem_cons_succ, List.getElem_cons_zero, Act.put, List.setIfInBounds_toArray, List.set_cons_zero, List.set_cons_succ]
                  refine wpAnyY_take (i := 8) (v := .bool false) rfl (by kernel_rfl) (by kernel_rfl) (by kernel_rfl) (by kernel_rfl) (fun _ _ _ h => h) (Or.inl ⟨by rfl, fun w hSw => by (obtain ⟨e0, e1, e2, e3, e4, e5, e6⟩ := hSw; go_simp)⟩) hHeld (Or.inl hFirst) ?_
                  try simp only [List.getElem_toArray, List.getElem_cons_succ, List.getElem_cons_zero, Act.put, List.setIfInBounds_toArray, List.set_cons_zero, List.set_cons_succ]
                  refine wpAnyY_take (i := 9) (v := .slice (some ⟨bt, ot, none⟩) n tc) rfl (by kernel_rfl) (by kernel_rfl) (by kernel_rfl) (by kernel_rfl) (fun _ _ _ h => h) (Or.inl ⟨by rfl, fun w hSw => by (obtain ⟨e0, e1, e2, e3, e4, e5, e6⟩ := hSw; go_simp)⟩) hHeld (Or.inl hFirst) ?_
                  try simp only [List.getElem_toArray, List.getElem_cons_succ, List.getElem_cons_zero, Act.put, List.setIfInBounds_toArray, List.set_cons_zero, List.set_cons_succ]
                  refine wpAnyY_take (i := 10) (v := .int .i64 (i : Int)) rfl (by kernel_rfl) (by kernel_rfl) (by kernel_rfl) (by kernel_rfl) (fun _ _ _ h => h) (Or.inl ⟨by rfl, fun w hSw => by (obtain ⟨e0, e1, e2, e3, e4, e5, e6⟩ := hSw; go_simp)⟩) hHeld (Or.inl hFirst) ?_
                  try simp only [List.getElem_toArray, List.getElem_cons_succ, List.getElem_cons_zero, Act.put, List.setIfInBounds_toArray, List.set_cons_zero, List.set_cons_succ]
                  refine wpAnyY_take (i := 11) (v := .pointer (some ⟨bt, ot + i * 3, none⟩)) rfl (by kernel_rfl) (by kernel_rfl) (by kernel_rfl) (by kernel_rfl) (fun _ _ _ h => h) (Or.inl ⟨by rfl, fun w hSw => by (obtain ⟨e0, e1, e2, e3, e4, e5, e6⟩ := hSw; go_simp)⟩) hHeld (Or.inl hFirst) ?_
                  try simp only [List.getElem_toArray, List.getElem_cons_succ, List.getElem_cons_zero, Act.put, List.setIfInBounds_toArray, List.set_cons_zero, List.set_cons_succ]
                  refine wpAnyY_take (i := 12) (v := .agg #[.bool y.s, .slice y.a y.k y.c, .slice y.b y.j y.d]) rfl (by kernel_rfl) (by kernel_rfl) (by kernel_rfl) (by kernel_rfl) (fun _ _ _ h => h) (Or.inl ⟨by rfl, fun w hSw => by (obtain ⟨e0, e1, e2, e3, e4, e5, e6⟩ := hSw; go_simp)⟩) hHeld (Or.inl hFirst) ?_
                  try simp only [List.getElem_toArray, List.getElem_cons_succ, List.getElem_cons_zero, Act.put, List.setIfInBounds_toArray, List.set_cons_zero, List.set_cons_succ]
                  refine wpAnyY_take (i := 13) (v := .slice (some ⟨bt, ot, none⟩) n tc) rfl (by kernel_rfl) (by kernel_rfl) (by kernel_rfl) (by kernel_rfl) (fun _ _ _ h => h) (Or.inl ⟨by rfl, fun w hSw => by (obtain ⟨e0, e1, e2, e3, e4, e5, e6⟩ := hSw; go_simp)⟩) hHeld (Or.inl hFirst) ?_
                  try simp only [List.getElem_toArray, List.getElem_cons_succ, List.getElem_cons_zero, Act.put, List.setIfInBounds_toArray, List.set_cons_zero, List.set_cons_succ]
                  refine wpAnyY_take (i := 14) (v := .int .i64 (p : Int)) rfl (by kernel_rfl) (by kernel_rfl) (by kernel_rfl) (by kernel_rfl) (fun _ _ _ h => h) (Or.inl ⟨by rfl, fun w hSw => by (obtain ⟨e0, e1, e2, e3, e4, e5, e6⟩ := hSw; go_simp)⟩) hHeld (Or.inl hFirst) ?_
                  try simp only [List.getElem_toArray, List.getElem_cons_succ, List.getElem_cons_zero, Act.put, List.setIfInBounds_toArray, List.set_cons_zero, List.set_cons_succ]
                  refine wpAnyY_take (i := 15) (v := .pointer (some ⟨bt, ot + p * 3, none⟩)) rfl (by kernel_rfl) (by kernel_rfl) (by kernel_rfl) (by kernel_rfl) (fun _ _ _ h => h) (Or.inl ⟨by rfl, fun w hSw => by (obtain ⟨e0, e1, e2, e3, e4, e5, e6⟩ := hSw; go_simp)⟩) hHeld (Or.inl hFirst) ?_
                  try simp only [List.getElem_toArray, List.getElem_cons_succ, List.getElem_cons_zero, Act.put, List.setIfInBounds_toArray, List.set_cons_zero, List.set_cons_succ]
                  refine wpAnyY_take (i := 16) (v := .agg #[.bool y'.s, .slice y'.a y'.k y'.c, .slice y'.b y'.j y'.d]) rfl (by kernel_rfl) (by kernel_rfl) (by kernel_rfl) (by kernel_rfl) (fun _ _ _ h => h) (Or.inl ⟨by rfl, fun w hSw => by (obtain ⟨e0, e1, e2, e3, e4, e5, e6⟩ := hSw; go_simp)⟩) hHeld (Or.inl hFirst) ?_
                  try simp only [List.getElem_toArray, List.getElem_cons_succ, List.getElem_cons_zero, Act.put, List.setIfInBounds_toArray, List.set_cons_zero, List.set_cons_succ]
                  refine wpAnyY_ready (rs := [17]) (by kernel_rfl) (by simp) ?_
                  refine AllReadyY.cons rfl (fun Kc hK => ?_) AllReadyY.nil
                  go_simp
                  refine (HCm.out _ (HE.out.trans y0)).mono ?_
                  rintro e z1 ⟨rfl, x1⟩
                  refine hK.out _ _ (HKS.out _ (y0.trans x1)) (trivial) (fun hHeld hFirst => ?_)
                  clear hK Kc
                  try simp only [List.getElem_toArray, List.getElem_cons_succ, List.getElem_cons_zero, Act.put, List.setIfInBounds_toArray, List.set_cons_zero, List.set_cons_succ]
                  refine wpAnyY_take (i := 18) (v := .bool (decide (0 < z))) rfl (by kernel_rfl) (by kernel_rfl) (by kernel_rfl) (by kernel_rfl) (fun _ _ _ h => h) (Or.inl ⟨by rfl, fun w hSw => by (obtain ⟨e0, e1, e2, e3, e4, e5, e6⟩ := hSw; go_simp)⟩) hHeld (Or.inl hFirst) ?_
                  try simp only [List.getElem_toArray, List.getElem_cons_succ, List.getElem_cons_zero, Act.put, List.setIfInBounds_toArray, List.set_cons_zero, List.set_cons_succ]
                  refine wpAnyY_take (i := 19) (v := .bool (decide (0 < z))) rfl (by kernel_rfl) (by kernel_rfl) (by kernel_rfl) (by kernel_rfl) (fun _ _ _ h => h) (Or.inl ⟨by rfl, fun w hSw => by (obtain ⟨e0, e1, e2, e3, e4, e5, e6⟩ := hSw; go_simp)⟩) hHeld (Or.inl hFirst) ?_
                  try simp only [List.getElem_toArray, List.getElem_cons_succ, List.getElem_cons_zero, Act.put, List.setIfInBounds_toArray, List.set_cons_zero, List.set_cons_succ]
                  refine wpAnyY_take (i := 20) (v := .bool (decide (0 < z))) rfl (by kernel_rfl) (by kernel_rfl) (by kernel_rfl) (by kernel_rfl) (fun _ _ _ h => h) (Or.inl ⟨by rfl, fun w hSw => by (obtain ⟨e0, e1, e2, e3, e4, e5, e6⟩ := hSw; go_simp)⟩) hHeld (Or.inl hFirst) ?_
                  try simp only [List.getElem_toArray, List.getElem_cons_succ, List.getElem_cons_zero, Act.put, List.setIfInBounds_toArray, List.set_cons_zero, List.set_cons_succ]
                  refine wpAnyY_done (by kernel_rfl) ?_ _
                  clear hHeld hFirst
                  have hGn : Hid (GA w B1 B2 n (msum (atQ qs) x P n) u z1) := HG.out.ext' (y0.trans x1)
                  by_cases hz : 0 < z
                  · have t5 : decide (0 < z) = true := by simpa using hz
                    rw [if_pos hz] at hnx
                    go_wp2_with fail
                    exact ⟨⟨i + 1, _, by omega, hnx.out, hGn.out, rfl, by go_num⟩, by simp only [intOf]; omega⟩
                  · have t5 : decide (0 < z) = false := by simpa using hz
                    rw [if_neg hz] at hnx
                    go_wp2_with fail
                    exact ⟨⟨i + 1, _, by omega, hnx.out, hGn.out, rfl, by go_num⟩, by simp only [intOf]; omega⟩
            · obtain rfl : n = i := by omega
              rcases hB with ⟨rfl, hall⟩ | ⟨p, rfl, hp, hup, htop⟩
              · have hno := HGr.out.stuck hpos hall
                have hE := hG.ext
                obtain ⟨a0, a1, a2, a3, a4, a5⟩ := box3 hG.res (Ext.refl _)
                have HNO := Lib.hid hno; have HE := Lib.hid hE
                clear hG hno hall hE
                go_wp2_with fail
                refine bodyPost_ret (v := .tuple #[.agg #[.bool false, .slice none 0 0, .slice none 0 0], .bool false]) (by simp [results, Tryz.results73, go_sem, a0, a1, a2]) rfl ⟨Ext.set3' HE.out (by omega), ⟨false, none, 0, 0, none, 0, 0⟩, false, rfl, Or.inr ⟨rfl, HNO.out⟩⟩
              · have hE := hG.ext
                obtain ⟨bl, ol, rfl, cL0⟩ := HLO.out.cell p (by omega)
                obtain ⟨bh, oh, rfl, cH0⟩ := HHI.out.cell p (by omega)
                obtain ⟨bt, ot, rfl, c00, c01, c02⟩ := HR.out.cell p (by omega)
                have hq := HR.out.num p (by omega)
                have hsh := HS.out p (by omega)
                have eL : at0 lo p = lo[p] := at0_eq (by omega)
                have eH : at0 hi p = hi[p] := at0_eq (by omega)
                have eQ : atQ qs p = qs[p]'(by rw [HR.out.len]; omega) := atQ_eq (by rw [HR.out.len]; omega)
                rw [← eL] at cL0; rw [← eH] at cH0; rw [← eQ] at hq
                have hbb := HB.out p hp
                have hpk : at0 isl p = k := by
                  by_cases hk : at0 isl p = k
                  · exact hk
                  · have := HGr.out.out p hp hk; rw [hup] at this; cases this
                have hPp : P p = true := by rw [HP.out]; simpa using hpk
                have hbx := HGr.out.box p hp hpk
                have hnext := HGr.out.next hpos p hp hup htop
                have hmset := msum_set (atQ qs) x P n p (min m (at0 hi p - at0 lo p)) hp hPp
                have hszs : rsz (msum (atQ qs) x P n) ≤ 1 + n * 1006 := msum_rsz _ _ _ 1000 n HSZ.out (fun j hj hPj => by
                  have h5 := HGr.out.box j hj (by rw [HP.out] at hPj; simpa using hPj)
                  have h6 := HB.out j hj
                  omega)
                have hcnt := cnt_set u n p hp hup
                obtain ⟨d, hd⟩ : ∃ d, min m (at0 hi p - at0 lo p) = d := ⟨_, rfl⟩
                have hd' : 0 ≤ d ∧ d ≤ m ∧ d ≤ 2147483648 := by omega
                rw [hd] at hnext hmset
                obtain ⟨q, hq'⟩ : ∃ q, q = atQ qs p := ⟨_, rfl⟩
                rw [← hq'] at hq hmset
                obtain ⟨l, hl⟩ : ∃ l, l = at0 lo p := ⟨_, rfl⟩
                obtain ⟨h, hh⟩ : ∃ h, h = at0 hi p := ⟨_, rfl⟩
                rw [← hl, ← hh] at hbb hd
                rw [← hl] at cL0; rw [← hh] at cH0
                generalize rs[p] = y at *
                have HNX := Lib.hid hnext; have HMS := Lib.hid hmset; have HCN := Lib.hid hcnt; have HQ := Lib.hid hq; have HE := Lib.hid hE; have HG := Lib.hid hG
                have bp0 : (0 : Int) ≤ (p : Int) := by omega
                have bp1 : (p : Int) < (n : Int) := by omega
                have tp : decide ((p : Int) < 0) = false := by simp
                have hw0 : IntKind.i64.wrap (h - l) = h - l := by rw [IntKind.wrap_i64]; omega
                have hw1 : IntKind.i64.wrap (m - d) = m - d := by rw [IntKind.wrap_i64]; omega
                have cL := cell_ext hE.drew cL0
                have cH := cell_ext hE.drew cH0
                clear hnext hmset hcnt hG htop hq hE hl hh hq' eL eH eQ hbx
                go_wp2_with fail
                refine wp_region_Y (fun w' => w'.cell? ⟨bh, oh + p, none⟩ = some (.int .i64 h) ∧ w'.cell? ⟨bl, ol + p, none⟩ = some (.int .i64 l)) (fun w' => True) (fun i => false) (by kernel_rfl) (⟨cH, cL⟩) (trivial) (fun hHeld hFirst => ?_)
                refine wpAnyY_take (i := 0) (v := .int .i64 m) rfl (by kernel_rfl) (by kernel_rfl) (by kernel_rfl) (by kernel_rfl) (fun _ _ _ h => h) (Or.inl ⟨by rfl, fun w hSw => by (obtain ⟨e0, e1⟩ := hSw; go_simp)⟩) hHeld (Or.inl hFirst) ?_
                try simp only [List.getElem_toArray, List.getElem_cons_zero, Act.put, List.setIfInBounds_toArray, List.set_cons_zero, List.set_cons_succ]
                refine wpAnyY_take (i := 1) (v := .slice (some ⟨bh, oh, none⟩) n hc) rfl (by kernel_rfl) (by kernel_rfl) (by kernel_rfl) (by kernel_rfl) (fun _ _ _ h => h) (Or.inl ⟨by rfl, fun w hSw => by (obtain ⟨e0, e1⟩ := hSw; go_simp)⟩) hHeld (Or.inl hFirst) ?_
                try simp only [List.getElem_toArray, List.getElem_cons_succ, List.getElem_cons_zero, Act.put, List.setIfInBounds_toArray, List.set_cons_zero, List.set_cons_succ]
                refine wpAnyY_take (i := 2) (v := .int .i64 (p : Int)) rfl (by kernel_rfl) (by kernel_rfl) (by kernel_rfl) (by kernel_rfl) (fun _ _ _ h => h) (Or.inl ⟨by rfl, fun w hSw => by (obtain ⟨e0, e1⟩ := hSw; go_simp)⟩) hHeld (Or.inl hFirst) ?_
                try simp only [List.getElem_toArray, List.getElem_cons_succ, List.getElem_cons_zero, Act.put, List.setIfInBounds_toArray, List.set_cons_zero, List.set_cons_succ]
                refine wpAnyY_take (i := 3) (v := .pointer (some ⟨bh, oh + p, none⟩)) rfl (by kernel_rfl) (by kernel_rfl) (by kernel_rfl) (by kernel_rfl) (fun _ _ _ h => h) (Or.inl ⟨by rfl, fun w hSw => by (obtain ⟨e0, e1⟩ := hSw; go_simp)⟩) hHeld (Or.inl hFirst) ?_
                try simp only [List.getElem_toArray, List.getElem_cons_succ, List.getElem_cons_zero, Act.put, List.setIfInBounds_toArray, List.set_cons_zero, List.set_cons_succ]
                refine wpAnyY_take (i := 4) (v := .int .i64 h) rfl (by kernel_rfl) (by kernel_rfl) (by kernel_rfl) (by kernel_rfl) (fun _ _ _ h => h) (Or.inl ⟨by rfl, fun w hSw => by (obtain ⟨e0, e1⟩ := hSw; go_simp)⟩) hHeld (Or.inl hFirst) ?_
                try simp only [List.getElem_toArray, List.getElem_cons_succ, List.getElem_cons_zero, Act.put, List.setIfInBounds_toArray, List.set_cons_zero, List.set_cons_succ]
                refine wpAnyY_take (i := 5) (v := .slice (some ⟨bl, ol, none⟩) n lc) rfl (by kernel_rfl) (by kernel_rfl) (by kernel_rfl) (by kernel_rfl) (fun _ _ _ h => h) (Or.inl ⟨by rfl, fun w hSw => by (obtain ⟨e0, e1⟩ := hSw; go_simp)⟩) hHeld (Or.inl hFirst) ?_
                try simp only [List.getElem_toArray, List.getElem_cons_succ, List.getElem_cons_zero, Act.put, List.setIfInBounds_toArray, List.set_cons_zero, List.set_cons_succ]
                refine wpAnyY_take (i := 6) (v := .int .i64 (p : Int)) rfl (by kernel_rfl) (by kernel_rfl) (by kernel_rfl) (by kernel_rfl) (fun _ _ _ h => h) (Or.inl ⟨by rfl, fun w hSw => by (obtain ⟨e0, e1⟩ := hSw; go_simp)⟩) hHeld (Or.inl hFirst) ?_
                try simp only [List.getElem_toArray, List.getElem_cons_succ, List.getElem_cons_zero, Act.put, List.setIfInBounds_toArray, List.set_cons_zero, List.set_cons_succ]
                refine wpAnyY_take (i := 7) (v := .pointer (some ⟨bl, ol + p, none⟩)) rfl (by kernel_rfl) (by kernel_rfl) (by kernel_rfl) (by kernel_rfl) (fun _ _ _ h => h) (Or.inl ⟨by rfl, fun w hSw => by (obtain ⟨e0, e1⟩ := hSw; go_simp)⟩) hHeld (Or.inl hFirst) ?_
                try simp only [List.getElem_toArray, List.getElem_cons_succ, List.getElem_cons_zero, Act.put, List.setIfInBounds_toArray, List.set_cons_zero, List.set_cons_succ]
                refine wpAnyY_take (i := 8) (v := .int .i64 l) rfl (by kernel_rfl) (by kernel_rfl) (by kernel_rfl) (by kernel_rfl) (fun _ _ _ h => h) (Or.inl ⟨by rfl, fun w hSw => by (obtain ⟨e0, e1⟩ := hSw; go_simp)⟩) hHeld (Or.inl hFirst) ?_
                try simp only [List.getElem_toArray, List.getElem_cons_succ, List.getElem_cons_zero, Act.put, List.setIfInBounds_toArray, List.set_cons_zero, List.set_cons_succ]
                refine wpAnyY_take (i := 9) (v := .int .i64 (h - l)) rfl (by kernel_rfl) (by kernel_rfl) (by kernel_rfl) (by kernel_rfl) (fun _ _ _ h => h) (Or.inl ⟨by rfl, fun w hSw => by (obtain ⟨e0, e1⟩ := hSw; go_simp)⟩) hHeld (Or.inl hFirst) ?_
                try simp only [List.getElem_toArray, List.getElem_cons_succ, List.getElem_cons_zero, Act.put, List.setIfInBounds_toArray, List.set_cons_zero, List.set_cons_succ]
                refine wpAnyY_take (i := 10) (v := .int .i64 d) rfl (by kernel_rfl) (by kernel_rfl) (by kernel_rfl) (by kernel_rfl) (fun _ _ _ h => h) (Or.inl ⟨by rfl, fun w hSw => by (obtain ⟨e0, e1⟩ := hSw; go_simp)⟩) hHeld (Or.inl hFirst) ?_
                try simp only [List.getElem_toArray, List.getElem_cons_succ, List.getElem_cons_zero, Act.put, List.setIfInBounds_toArray, List.set_cons_zero, List.set_cons_succ]
                refine wpAnyY_take (i := 11) (v := .int .i64 d) rfl (by kernel_rfl) (by kernel_rfl) (by kernel_rfl) (by kernel_rfl) (fun _ _ _ h => h) (Or.inl ⟨by rfl, fun w hSw => by (obtain ⟨e0, e1⟩ := hSw; go_simp)⟩) hHeld (Or.inl hFirst) ?_
                try simp only [List.getElem_toArray, List.getElem_cons_succ, List.getElem_cons_zero, Act.put, List.setIfInBounds_toArray, List.set_cons_zero, List.set_cons_succ]
                refine wpAnyY_done (by kernel_rfl) ?_ _
                clear hHeld hFirst
                clear cL cH cL0 cH0 hd
                obtain ⟨r, hA1, hC1⟩ := (HG.out.ext' (Ext.refl _).drew).sum
                have HC1 := Lib.hid hC1
                have hlz := len_i64 (z := d) (by omega) (by omega)
                have hmz : rsz (q * ((d : Int) : Rat)) ≤ 2000 := by
                  have := rsz_mul q ((d : Int) : Rat); have := HQ.out.rsz; omega
                have hKS : ∀ V, Ext w V → V.cell? ⟨bt, ot + p * 3, none⟩ = some (.bool y.s) ∧ V.cell? ⟨bt, ot + p * 3 + 1, none⟩ = some (.slice y.a y.k y.c) ∧ V.cell? ⟨bt, ot + p * 3 + 2, none⟩ = some (.slice y.b y.j y.d) := fun V hV => ⟨cell_ext hV c00, cell_ext hV c01, cell_ext hV c02⟩
                have hKR : ∀ V, Ext wr.drew V → V.cell? ⟨B1, 0, none⟩ = some (.bool r.s) ∧ V.cell? ⟨B1, 1, none⟩ = some (.slice r.a r.k r.c) ∧ V.cell? ⟨B1, 2, none⟩ = some (.slice r.b r.j r.d) ∧ V.frozen? ⟨B1, 0, none⟩ = false ∧ V.frozen? ⟨B1, 1, none⟩ = false ∧ V.frozen? ⟨B1, 2, none⟩ = false := fun V hV => box3 hA1 hV
                have HKS := Lib.hid hKS; have HKR := Lib.hid hKR
                have hz1 := hA1.lt
                clear hKS hKR hA1 hC1 c00 c01 c02
                have y0 : Ext wr.drew wr.drew.drew := (Ext.refl _).drew
                have hEw : Ext w wr.drew := HE.out.drew
                go_wp2_with fail
                refine wp_region_Y (fun w' => w'.cell? ⟨bt, ot + p * 3, none⟩ = some (.bool y.s) ∧ w'.cell? ⟨bt, ot + p * 3 + 1, none⟩ = some (.slice y.a y.k y.c) ∧ w'.cell? ⟨bt, ot + p * 3 + 2, none⟩ = some (.slice y.b y.j y.d)) (fun w' => w'.cell? ⟨B1, 0, none⟩ = some (.bool r.s) ∧ w'.cell? ⟨B1, 1, none⟩ = some (.slice r.a r.k r.c) ∧ w'.cell? ⟨B1, 2, none⟩ = some (.slice r.b r.j r.d) ∧ w'.frozen? ⟨B1, 0, none⟩ = false ∧ w'.frozen? ⟨B1, 1, none⟩ = false ∧ w'.frozen? ⟨B1, 2, none⟩ = false) (fun i => i == 14 || i == 17) (by kernel_rfl) (HKS.out _ (hEw.trans y0)) (HKR.out _ y0) (fun hHeld hFirst => ?_)
                refine wpAnyY_take (i := 0) (v := .slice (some ⟨B2, 0, none⟩) n n) rfl (by kernel_rfl) (by kernel_rfl) (by kernel_rfl) (by kernel_rfl) (fun _ _ _ h => h) (Or.inl ⟨by rfl, fun w hSw => by (obtain ⟨e0, e1, e2⟩ := hSw; go_simp)⟩) hHeld (Or.inl hFirst) ?_
                try simp only [List.getElem_toArray, List.getElem_cons_zero, Act.put, List.setIfInBounds_toArray, List.set_cons_zero, List.set_cons_succ]
                refine wpAnyY_take (i := 1) (v := .int .i64 (p : Int)) rfl (by kernel_rfl) (by kernel_rfl) (by kernel_rfl) (by kernel_rfl) (fun _ _ _ h => h) (Or.inl ⟨by rfl, fun w hSw => by (obtain ⟨e0, e1, e2⟩ := hSw; go_simp)⟩) hHeld (Or.inl hFirst) ?_
                try simp only [List.getElem_toArray, List.getElem_cons_succ, List.getElem_cons_zero, Act.put, List.setIfInBounds_toArray, List.set_cons_zero, List.set_cons_succ]
                refine wpAnyY_takeR (i := 2) (v := .agg #[.bool r.s, .slice r.a r.k r.c, .slice r.b r.j r.d]) rfl (by kernel_rfl) (by kernel_rfl) (by kernel_rfl) (by kernel_rfl) (by kernel_rfl) (by kernel_rfl) (fun _ _ _ h => h) (Or.inl ⟨by rfl, fun w hSw => by (obtain ⟨hSw, hSr⟩ := hSw; obtain ⟨e0, e1, e2⟩ := hSw; obtain ⟨d0, d1, d2, d3, d4, d5⟩ := hSr; go_simp)⟩) hHeld hFirst ?_
                try simp only [List.getElem_toArray, List.getElem_cons_succ, List.getElem_cons_zero, Act.put, List.setIfInBounds_toArray, List.set_cons_zero, List.set_cons_succ]
                refine wpAnyY_take (i := 3) (v := .slice (some ⟨bt, ot, none⟩) n tc) rfl (by kernel_rfl) (by kernel_rfl) (by kernel_rfl) (by kernel_rfl) (fun _ _ _ h => h) (Or.inl ⟨by rfl, fun w hSw => by (obtain ⟨e0, e1, e2⟩ := hSw; go_simp)⟩) hHeld (Or.inl hFirst) ?_
                try simp only [List.getElem_toArray, List.getElem_cons_succ, List.getElem_cons_zero, Act.put, List.setIfInBounds_toArray, List.set_cons_zero, List.set_cons_succ]
                refine wpAnyY_take (i := 4) (v := .int .i64 (p : Int)) rfl (by kernel_rfl) (by kernel_rfl) (by kernel_rfl) (by kernel_rfl) (fun _ _ _ h => h) (Or.inl ⟨by rfl, fun w hSw => by (obtain ⟨e0, e1, e2⟩ := hSw; go_simp)⟩) hHeld (Or.inl hFirst) ?_
                try simp only [List.getElem_toArray, List.getElem_cons_succ, List.getElem_cons_zero, Act.put, List.setIfInBounds_toArray, List.set_cons_zero, List.set_cons_succ]
                refine wpAnyY_take (i := 5) (v := .pointer (some ⟨bt, ot + p * 3, none⟩)) rfl (by kernel_rfl) (by kernel_rfl) (by kernel_rfl) (by kernel_rfl) (fun _ _ _ h => h) (Or.inl ⟨by rfl, fun w hSw => by (obtain ⟨e0, e1, e2⟩ := hSw; go_simp)⟩) hHeld (Or.inl hFirst) ?_
                try simp only [List.getElem_toArray, List.getElem_cons_succ, List.getElem_cons_zero, Act.put, List.setIfInBounds_toArray, List.set_cons_zero, List.set_cons_succ]
                refine wpAnyY_take (i := 6) (v := .agg #[.bool y.s, .slice y.a y.k y.c, .slice y.b y.j y.d]) rfl (by kernel_rfl) (by kernel_rfl) (by kernel_rfl) (by kernel_rfl) (fun _ _ _ h => h) (Or.inl ⟨by rfl, fun w hSw => by (obtain ⟨e0, e1, e2⟩ := hSw; go_simp)⟩) hHeld (Or.inl hFirst) ?_
                try simp only [List.getElem_toArray, List.getElem_cons_succ, List.getElem_cons_zero, Act.put, List.setIfInBounds_toArray, List.set_cons_zero, List.set_cons_succ]
                refine wpAnyY_take (i := 7) (v := .int .i64 d) rfl (by kernel_rfl) (by kernel_rfl) (by kernel_rfl) (by kernel_rfl) (fun _ _ _ h => h) (Or.inl ⟨by rfl, fun w hSw => by (obtain ⟨e0, e1, e2⟩ := hSw; go_simp)⟩) hHeld (Or.inl hFirst) ?_
                try simp only [List.getElem_toArray, List.getElem_cons_succ, List.getElem_cons_zero, Act.put, List.setIfInBounds_toArray, List.set_cons_zero, List.set_cons_succ]
                refine wpAnyY_take (i := 11) (v := .int .i64 m) rfl (by kernel_rfl) (by kernel_rfl) (by kernel_rfl) (by kernel_rfl) (fun _ _ _ h => h) (Or.inl ⟨by rfl, fun w hSw => by (obtain ⟨e0, e1, e2⟩ := hSw; go_simp)⟩) hHeld (Or.inl hFirst) ?_
                try simp only [List.getElem_toArray, List.getElem_cons_succ, List.getElem_cons_zero, Act.put, List.setIfInBounds_toArray, List.set_cons_zero, List.set_cons_succ]
                refine wpAnyY_take (i := 12) (v := .int .i64 d) rfl (by kernel_rfl) (by kernel_rfl) (by kernel_rfl) (by kernel_rfl) (fun _ _ _ h => h) (Or.inl ⟨by rfl, fun w hSw => by (obtain ⟨e0, e1, e2⟩ := hSw; go_simp)⟩) hHeld (Or.inl hFirst) ?_
                try simp only [List.getElem_toArray, List.getElem_cons_succ, List.getElem_cons_zero, Act.put, List.setIfInBounds_toArray, List.set_cons_zero, List.set_cons_succ]
                refine wpAnyY_take (i := 13) (v := .int .i64 (m - d)) rfl (by kernel_rfl) (by kernel_rfl) (by kernel_rfl) (by kernel_rfl) (fun _ _ _ h => h) (Or.inl ⟨by rfl, fun w hSw => by (obtain ⟨e0, e1, e2⟩ := hSw; go_simp)⟩) hHeld (Or.inl hFirst) ?_
                try simp only [List.getElem_toArray, List.getElem_cons_succ, List.getElem_cons_zero, Act.put, List.setIfInBounds_toArray, List.set_cons_zero, List.set_cons_succ]
                refine wpAnyY_ready (rs := [8]) (by kernel_rfl) (by simp) ?_
                refine AllReadyY.cons rfl (fun Kc hK => ?_) AllReadyY.nil
                go_simp
                refine (r3_FromInt _ d (by omega) (by omega)).mono ?_
                intro e z1 hN
                obtain ⟨q1, rfl, hq1, x1⟩ := hN.isCan
                clear hN
                have y1 := y0.trans x1
                refine hK.out _ _ (HKS.out _ (hEw.trans y1)) (HKR.out _ y1) (fun hHeld hFirst => ?_)
                clear hK Kc
                try simp only [List.getElem_toArray, List.getElem_cons_succ, List.getElem_cons_zero, Act.put, List.setIfInBounds_toArray, List.set_cons_zero, List.set_cons_succ]
                refine wpAnyY_ready (rs := [9]) (by kernel_rfl) (by simp) ?_
                refine AllReadyY.cons rfl (fun Kc hK => ?_) AllReadyY.nil
                go_simp
                refine (r3_MulC _ y q L (HQ.out.ext (hEw.trans y1)) hsh.1 hsh.2 _ _ _ hq1 (by omega)).mono ?_
                intro e z2 hN
                obtain ⟨q2, rfl, hq2, x2⟩ := hN.isCan
                clear hN
                have y2 := y1.trans x2
                refine hK.out _ _ (HKS.out _ (hEw.trans y2)) (HKR.out _ y2) (fun hHeld hFirst => ?_)
                clear hK Kc
                try simp only [List.getElem_toArray, List.getElem_cons_succ, List.getElem_cons_zero, Act.put, List.setIfInBounds_toArray, List.set_cons_zero, List.set_cons_succ]
                refine wpAnyY_ready (rs := [10]) (by kernel_rfl) (by simp) ?_
                refine AllReadyY.cons rfl (fun Kc hK => ?_) AllReadyY.nil
                go_simp
                refine (r3_AddC _ r _ _ (HC1.out.ext y2) (by omega) _ _ _ hq2 (by omega)).mono ?_
                intro e z3 hN
                obtain ⟨q3, rfl, hq3, x3⟩ := hN.isCan
                clear hN
                have y3 := y2.trans x3
                refine hK.out _ _ (HKS.out _ (hEw.trans y3)) (HKR.out _ y3) (fun hHeld hFirst => ?_)
                clear hK Kc
                try simp only [List.getElem_toArray, List.getElem_cons_succ, List.getElem_cons_zero, Act.put, List.setIfInBounds_toArray, List.set_cons_zero, List.set_cons_succ]
                obtain ⟨d0, d1, d2, d3, d4, d5⟩ := HKR.out _ y3
                have hGs := ((HG.out.ext' (Ext.refl _).drew).ext' y3).setS hb1 hb2 hq3 (by have := y2.size; omega)
                have hGn : Hid (GA w B1 B2 n (msum (atQ qs) (fun j => if j = p then x p + d else x j) P n) (fun j => if j = p then true else u j) ((((z3.setCell ⟨B1, 0, none⟩ (.bool q3.s)).setCell ⟨B1, 1, none⟩ (.slice q3.a q3.k q3.c)).setCell ⟨B1, 2, none⟩ (.slice q3.b q3.j q3.d)).setCell ⟨B2, p, none⟩ (.bool true))) := (hGs.setU hb1 hb2 p true).value HMS.out.symm
                have cU := hGs.used.cell p
                rw [bools_get _ _ _ hp] at cU
                have fU := hGs.used.frozen p
                have hEs := hGs.ext
                clear hGs
                have HCU := Lib.hid cU; have HFU := Lib.hid fU
                clear cU fU
                refine wpAnyY_ready (rs := [14]) (by kernel_rfl) (by simp) ?_
                refine AllReadyY.late rfl (by kernel_rfl) (fun Kc hK => ?_) AllReadyY.nil
                go_simp
                refine hK.out _ _ (HKS.out _ hEs) (fun hHeld => ?_)
                clear hK Kc
                try simp only [List.getElem_toArray, List.getElem_cons_succ, List.getElem_cons_zero, Act.put, List.setIfInBounds_toArray, List.set_cons_zero, List.set_cons_succ]
                clear d0 d1 d2 d3 d4 d5
                refine wpAnyY_take (i := 15) (v := .int .i64 (m - d)) rfl (by kernel_rfl) (by kernel_rfl) (by kernel_rfl) (by kernel_rfl) (fun _ _ _ h => h) (Or.inl ⟨by rfl, fun w hSw => by (obtain ⟨e0, e1, e2⟩ := hSw; go_simp)⟩) hHeld (Or.inr (by kernel_rfl)) ?_
                try simp only [List.getElem_toArray, List.getElem_cons_succ, List.getElem_cons_zero, Act.put, List.setIfInBounds_toArray, List.set_cons_zero, List.set_cons_succ]
                refine wpAnyY_take (i := 16) (v := .pointer (some ⟨B2, p, none⟩)) rfl (by kernel_rfl) (by kernel_rfl) (by kernel_rfl) (by kernel_rfl) (fun _ _ _ h => h) (Or.inl ⟨by rfl, fun w hSw => by (obtain ⟨e0, e1, e2⟩ := hSw; go_simp)⟩) hHeld (Or.inr (by kernel_rfl)) ?_
                try simp only [List.getElem_toArray, List.getElem_cons_succ, List.getElem_cons_zero, Act.put, List.setIfInBounds_toArray, List.set_cons_zero, List.set_cons_succ]
                have cU := HCU.out; have fU := HFU.out
                refine wpAnyY_ready (rs := [17]) (by kernel_rfl) (by simp) ?_
                refine AllReadyY.late rfl (by kernel_rfl) (fun Kc hK => ?_) AllReadyY.nil
                go_simp
                refine hK.out _ _ (HKS.out _ (hEs.setCell (by simp only; omega) _)) (fun hHeld => ?_)
                clear hK Kc
                try simp only [List.getElem_toArray, List.getElem_cons_succ, List.getElem_cons_zero, Act.put, List.setIfInBounds_toArray, List.set_cons_zero, List.set_cons_succ]
                refine wpAnyY_done (by kernel_rfl) ?_ _
                clear hHeld cU fU HCU HFU
                go_wp2_with fail
                exact ⟨⟨m - d, by omega, by omega, ⟨_, _, Or.inl HNX.out, hGn.out⟩, rfl⟩, by rw [hGn.out.count, HCW.out]; exact HCN.out⟩
        · have t0 : decide (0 < m) = false := by simpa using hpos
          obtain ⟨r, hA1, hC1⟩ := hG.sum
          obtain ⟨a0, a1, a2, a3, a4, a5⟩ := box3 hG.res (Ext.refl _)
          obtain ⟨b0, b1, b2, b3, b4, b5⟩ := box3 hA1 (Ext.refl _)
          have hE := hG.ext
          by_cases hm0 : m = 0
          · subst hm0
            have hdn := (hx.resolve_right (by omega)).done
            have HX := Lib.hid hx; have HDN := Lib.hid hdn; have HE := Lib.hid hE; have HC1 := Lib.hid hC1
            clear hx hdn hE hC1 hG hA1
            go_wp2_with fail
            refine bodyPost_ret (v := .tuple #[.agg #[.bool r.s, .slice r.a r.k r.c, .slice r.b r.j r.d], .bool true]) (by simp [results, Tryz.results73, go_sem, a0, a1, a2]) rfl ⟨Ext.set3' HE.out (by omega), r, true, rfl, Or.inl ⟨rfl, HDN.out.1, x, HDN.out.2, ?_⟩⟩
            have h5 := (HC1.out.same3 w.heap.size (by omega) (x := .bool r.s) (y := .slice r.a r.k r.c) (z := .slice r.b r.j r.d)).mono (show w.heap.size ≤ w.heap.size + 1 by omega)
            rw [HP.out] at h5
            exact h5
          · have hneg : m < 0 := by omega
            have hno : ¬ OkI n (at0 isl) (at0 lo) (at0 hi) k := by
              rcases hx with h | ⟨_, h⟩
              · have := h.pos; omega
              · rintro ⟨_, h1, _⟩; omega
            have tz : (m == 0) = false := by simpa using hm0
            have HNO := Lib.hid hno; have HE := Lib.hid hE
            clear hx hno hE hC1 hG hA1
            go_wp2_with fail
            exact bodyPost_ret (v := .tuple #[.agg #[.bool r.s, .slice r.a r.k r.c, .slice r.b r.j r.d], .bool false]) (by simp [results, Tryz.results73, go_sem, a0, a1, a2]) rfl ⟨Ext.set3' HE.out (by omega), r, false, rfl, Or.inr ⟨rfl, HNO.out⟩⟩

end Go.Proofs.YtgihpfkjpfanmaaGreat
