/- Texts of the proof: Sd3. -/
import Derived.Deep.DeepCutAuto
import Derived.Deep.CutBlock
import Derived.IntWalk
import Derived.Test.YtgihpfkjpfanmaaGreatRows
import Derived.Laws.AppendOwnNone
import Derived.Deep.LoopGhost
import Derived.Deep.Slices
import Derived.Deep.RegionHeld
import Derived.KernelRfl
import Derived.WalkKit
import Derived.WalkSpells
import Derived.Sort.Grow
import Derived.Lib.Hide
import Derived.Laws.CopyOwn
import Derived.Laws.BitsAllLaws
import Derived.Deep.QuietTactic
import Derived.BigQuiet
import Derived.WalkLawsBesides
import Derived.Deep.RegionWith
import Derived.Deep.RegionHeld3
import Derived.Test.YtgihpfkjpfanmaaGreatProg
import Derived.Shelf.SlSortCmp.NoneTotal
import Derived.Maps.RangeWalk
import Derived.Maps.OwnSet
import Derived.Maps.OwnOps
import Derived.Maps.Views
import Derived.Lib.MinMax
import Derived.Shelf.SlMaps.Clone
import Derived.Shelf.SlicesE.Reverse
import Derived.Test.YtgihpfkjpfanmaaGreatChecked
import Derived.Lib.Strings
import Derived.Lib.Slices
import Derived.Lib.Small
import Derived.Lib.Walk
import Derived.Lib.BitFns
import Derived.ProofKit
import Derived.OpenShut
import Derived.ShutString
import Derived.ChangeOld
import Derived.Below
import Derived.Test.YtgihpfkjpfanmaaGreatQi1
import Derived.Test.YtgihpfkjpfanmaaGreatQi2
import Derived.Test.YtgihpfkjpfanmaaGreatQi3
import Derived.Test.YtgihpfkjpfanmaaGreatQi4
import Derived.Test.YtgihpfkjpfanmaaGreatQi5
import Derived.Test.YtgihpfkjpfanmaaGreatQi6
import Derived.Test.YtgihpfkjpfanmaaGreatQi7
import Derived.Test.YtgihpfkjpfanmaaGreatQi8
import Derived.Test.YtgihpfkjpfanmaaGreatQi9
import Derived.Test.YtgihpfkjpfanmaaGreatQi10
import Derived.Test.YtgihpfkjpfanmaaGreatQi11
import Derived.Test.YtgihpfkjpfanmaaGreatQi12
import Derived.Test.YtgihpfkjpfanmaaGreatQi13
import Derived.Test.YtgihpfkjpfanmaaGreatQi14
import Derived.Test.YtgihpfkjpfanmaaGreatQi15
import Derived.Test.YtgihpfkjpfanmaaGreatQi16
import Derived.Test.YtgihpfkjpfanmaaGreatQi18
import Derived.Test.YtgihpfkjpfanmaaGreatQi19
namespace Go.Proofs.YtgihpfkjpfanmaaGreat
open Go.RowKit

def NoU32 (vs : List Value) : Prop := ∀ v ∈ vs, ∀ z, v ≠ .int .u32 z
theorem NoU32.set {vs : List Value} (h : NoU32 vs) {i : Nat} {x : Value} (hx : ∀ z, x ≠ .int .u32 z) : NoU32 (vs.set i x) := by
  intro v hv
  rcases List.mem_or_eq_of_mem_set hv with h1 | rfl
  · exact h v h1
  · exact hx
theorem RVal.noU32 (r : RVal) : NoU32 r.cells := by
  intro v hv z e
  simp [RVal.cells] at hv
  rcases hv with rfl | rfl | rfl <;> cases e
theorem Limbs.beside {w : World} {a : Option Addr} {c : Nat} {l : List Nat} (h : Limbs w a c l) {b : Nat} {T : TypeId} {vs : List Value} (hA : Arr w b T vs) (hv : NoU32 vs) (i : Nat) (x : Value) : Limbs (w.setCell ⟨b, i, none⟩ x) a c l :=
  ⟨h.le, h.cap, h.short, h.nul, h.small, fun j hj => by
    obtain ⟨b', o, ha, hc⟩ := h.cell j hj
    refine ⟨b', o, ha, ?_⟩
    by_cases hb : b' = b
    · subst hb
      rw [hA.cell] at hc
      exact absurd rfl (hv _ (List.mem_of_getElem? hc) _)
    · rw [World.cell?_setCell_other _ _ _ _ (by intro e; have := congrArg Addr.block e; simp at this; omega)]; exact hc⟩
theorem IsRat.beside {w : World} {r : RVal} {q : Rat} {L : Nat} (h : IsRat w r q L) {b : Nat} {T : TypeId} {vs : List Value} (hA : Arr w b T vs) (hv : NoU32 vs) (i : Nat) (x : Value) : IsRat (w.setCell ⟨b, i, none⟩ x) r q L := by
  obtain ⟨n, m, ⟨l, h1, h2, h3⟩, ⟨l', h1', h2', h3'⟩, h4⟩ := h
  exact ⟨n, m, ⟨l, h1, h2, h3.beside hA hv i x⟩, ⟨l', h1', h2', h3'.beside hA hv i x⟩, h4⟩
/-- A number is written into a block of its own. -/
def putBox (w : World) (b : Nat) (r : RVal) : World := ((w.setCell ⟨b, 0, none⟩ (.bool r.s)).setCell ⟨b, 1, none⟩ (.slice r.a r.k r.c)).setCell ⟨b, 2, none⟩ (.slice r.b r.j r.d)
theorem IsRat.put3 {w : World} {r : RVal} {q : Rat} {L : Nat} (h : IsRat w r q L) {b : Nat} {T : TypeId} {r0 : RVal} (hA : Arr w b T r0.cells) (r1 : RVal) : IsRat (putBox w b r1) r q L := by
  have v0 := RVal.noU32 r0
  have v1 := v0.set (i := 0) (x := .bool r1.s) (fun z e => by cases e)
  have v2 := v1.set (i := 1) (x := .slice r1.a r1.k r1.c) (fun z e => by cases e)
  exact ((h.beside hA v0 0 _).beside (hA.set 0 _) v1 1 _).beside ((hA.set 0 _).set 1 _) v2 2 _
theorem Arr.put3 {w : World} {b : Nat} {T : TypeId} {r0 : RVal} (hA : Arr w b T r0.cells) (r1 : RVal) : Arr (putBox w b r1) b T r1.cells := ((hA.set 0 _).set 1 _).set 2 _
theorem Arr.put3o {w : World} {b b' : Nat} {T : TypeId} {vs : List Value} (hA : Arr w b T vs) (hb : b' ≠ b) (r1 : RVal) : Arr (putBox w b' r1) b T vs :=
  ((hA.other ⟨b', 0, none⟩ _ hb).other ⟨b', 1, none⟩ _ hb).other ⟨b', 2, none⟩ _ hb
theorem cell_put3 {w : World} {p : Addr} {v : Value} (h : w.cell? p = some v) {b : Nat} (hb : p.block ≠ b) (r1 : RVal) : (putBox w b r1).cell? p = some v := by
  unfold putBox
  rw [World.cell?_setCell_other _ _ _ _ (by intro e; have := congrArg Addr.block e; simp at this; omega), World.cell?_setCell_other _ _ _ _ (by intro e; have := congrArg Addr.block e; simp at this; omega), World.cell?_setCell_other _ _ _ _ (by intro e; have := congrArg Addr.block e; simp at this; omega)]
  exact h
theorem froz_put3 {w : World} {p : Addr} {b : Nat} {r1 : RVal} : (putBox w b r1).frozen? p = w.frozen? p := by unfold putBox; rw [World.frozen?_setCell, World.frozen?_setCell, World.frozen?_setCell]
theorem Ext.put3 {w0 w : World} (h : Ext w0 w) {b : Nat} (hb : w0.heap.size ≤ b) (r1 : RVal) : Ext w0 (putBox w b r1) := Ext.set3' h hb
theorem Rats.put3 {w : World} {a : Option Addr} {c : Nat} {rs : List RVal} {qs : List Rat} {L : Nat} (h : Rats w a c rs qs L) {b : Nat} {T : TypeId} {r0 : RVal} (hA : Arr w b T r0.cells) (hf : Fr (b + 1) a) (r1 : RVal) : Rats (putBox w b r1) a c rs qs L :=
  ⟨h.len, h.le, h.cap, h.short, fun i hi => by
    obtain ⟨g, o, ha, h0, h1, h2⟩ := h.cell i hi
    have hg : g ≠ b := by have := hf _ ha; simp only at this; omega
    exact ⟨g, o, ha, cell_put3 h0 hg r1, cell_put3 h1 hg r1, cell_put3 h2 hg r1⟩, fun i hi => (h.num i hi).put3 hA r1⟩

theorem RatRow.ratsFr {w wr : World} {v : Value} {rs : List RVal} {qs : List Rat} {L : Nat} (h : RatRow w wr v rs qs L) (hs : rs.length ≤ 1000000) : ∃ a c, v = .slice a rs.length c ∧ Rats wr a c rs qs L ∧ Fr w.heap.size a := by
  obtain ⟨a, c, rfl, hR⟩ := h.rats hs
  refine ⟨a, c, rfl, hR, ?_⟩
  obtain ⟨h1, h2⟩ := h.own
  rcases h2 with ⟨h2, _⟩ | ⟨g, cap, cur, h2, hb, _⟩
  · simp only [Value.slice.injEq] at h2
    rw [h2.1]; exact Fr.none _
  · simp only [Value.slice.injEq] at h2
    rw [h2.1]; exact Fr.some hb

theorem isRat_zero (w : World) (L : Nat) : IsRat w ⟨false, none, 0, 0, none, 0, 0⟩ 0 L := ⟨0, 0, Raw.nil w, Raw.nil w, by simp [sgn], by rw [show len 0 = 0 from rfl]; exact Nat.zero_le _, by rw [show len 0 = 0 from rfl]; exact Nat.zero_le _⟩

def negQ (qs : List Rat) : List Rat := qs.map fun q => -q
theorem negQ_at (qs : List Rat) (i : Nat) : atQ (negQ qs) i = -(atQ qs i) := by
  unfold negQ atQ
  rw [List.getElem?_map]
  cases qs[i]? with
  | none => simp
  | some q => rfl

/-- The two sums of Extreme. -/
structure XA (w : World) (p q : Rat) (M : Nat) (am : Option Addr) (cm : Nat) (rm : List RVal) (qm : List Rat) (wr : World) : Prop where
  ext : Ext w wr
  least : ∃ r : RVal, Arr wr w.heap.size 55 r.cells ∧ IsRat wr r p M ∧ r.k ≤ M ∧ r.j ≤ M
  most : ∃ r : RVal, Arr wr (w.heap.size + 1) 55 r.cells ∧ IsRat wr r q M ∧ r.k ≤ M ∧ r.j ≤ M
  minus : Rats wr am cm rm qm 1000
theorem XA.ext' {w : World} {p q : Rat} {M : Nat} {am : Option Addr} {cm : Nat} {rm : List RVal} {qm : List Rat} {wr wr' : World} (h : XA w p q M am cm rm qm wr) (e : Ext wr wr') : XA w p q M am cm rm qm wr' := by
  obtain ⟨r1, a1, b1, c1⟩ := h.least
  obtain ⟨r2, a2, b2, c2⟩ := h.most
  exact ⟨h.ext.trans e, ⟨r1, a1.ext e, b1.ext e, c1⟩, ⟨r2, a2.ext e, b2.ext e, c2⟩, h.minus.ext e⟩
theorem XA.mono {w : World} {p q : Rat} {M M' : Nat} {am : Option Addr} {cm : Nat} {rm : List RVal} {qm : List Rat} {wr : World} (h : XA w p q M am cm rm qm wr) (e : M ≤ M') : XA w p q M' am cm rm qm wr := by
  obtain ⟨r1, a1, b1, c1, d1⟩ := h.least
  obtain ⟨r2, a2, b2, c2, d2⟩ := h.most
  exact ⟨h.ext, ⟨r1, a1, b1.mono e, by omega, by omega⟩, ⟨r2, a2, b2.mono e, by omega, by omega⟩, h.minus⟩
theorem XA.put {w : World} {p q : Rat} {M : Nat} {am : Option Addr} {cm : Nat} {rm : List RVal} {qm : List Rat} {wr : World} (h : XA w p q M am cm rm qm wr) (hf : Fr (w.heap.size + 1 + 1) am) {r1 r2 : RVal} {p' q' : Rat} {B1 B2 M' : Nat} (h1 : IsCan wr r1 p' B1) (h2 : IsCan wr r2 q' B2) (s1 : rsz p' ≤ M') (s2 : rsz q' ≤ M') :
    XA w p' q' M' am cm rm qm (putBox (putBox wr (w.heap.size + 1) r2) w.heap.size r1) := by
  obtain ⟨x1, a1, -, -⟩ := h.least
  obtain ⟨x2, a2, -, -⟩ := h.most
  have b1 := h1.short s1
  have b2 := h2.short s2
  have a1' := a1.put3o (b' := w.heap.size + 1) (by omega) r2
  refine ⟨Ext.put3 (Ext.put3 h.ext (by omega) r2) (Nat.le_refl _) r1, ⟨r1, a1'.put3 r1, ((h1.isRat.mono s1).put3 a2 r2).put3 a1' r1, b1⟩, ⟨r2, (a2.put3 r2).put3o (by omega) r1, ((h2.isRat.mono s2).put3 a2 r2).put3 a1' r1, b2⟩, (h.minus.put3 a2 hf r2).put3 a1' (hf.mono (by omega)) r1⟩

/-- What Extreme returns. -/
def RxRes (w : World) (n : Nat) (t : Nat → Rat) (isl lo hi : Nat → Int) (e : Ending) (w' : World) : Prop :=
  Ext w w' ∧ ∃ (r1 r2 : RVal) (b : Bool) (p q : Rat), e = .returned (.tuple #[.agg #[.bool r1.s, .slice r1.a r1.k r1.c, .slice r1.b r1.j r1.d], .agg #[.bool r2.s, .slice r2.a r2.k r2.c, .slice r2.b r2.j r2.d], .bool b]) ∧ IsRat w' r1 p 2000000 ∧ IsRat w' r2 q 2000000 ∧ (r1.k ≤ 2000000 ∧ r1.j ≤ 2000000) ∧ (r2.k ≤ 2000000 ∧ r2.j ≤ 2000000) ∧
    ((b = true ∧ (∀ k, keyP isl n k → OkI n isl lo hi k) ∧ Best n (fun i => -(t i)) isl lo hi (-p) ∧ Best n t isl lo hi q) ∨ (b = false ∧ p = 0 ∧ q = 0 ∧ ¬ ∀ k, keyP isl n k → OkI n isl lo hi k))
def RxNo (w : World) (e : Ending) (w' : World) : Prop := e = .returned (.tuple #[.agg #[.bool false, .slice none 0 0, .slice none 0 0], .agg #[.bool false, .slice none 0 0, .slice none 0 0], .bool false]) ∧ Ext w w'

set_option maxHeartbeats 1000000 in
set_option maxRecDepth 100000 in
theorem r30_extreme_len (w : World) (ta la ha ia : Option Addr) (tc lc hc ic n a b c : Nat) (hc0 : n ≤ 100000 ∧ a ≤ 100000 ∧ b ≤ 100000 ∧ c ≤ 100000) (h : 32 < n ∨ a ≠ n ∨ b ≠ n ∨ c ≠ n) :
    Calls Tryz.prog 26 #[.slice ta n tc, .slice la a lc, .slice ha b hc, .slice ia c ic] w fun e w' => RxNo w e w' := by
  have hz : decide ((32 : Int) < (n : Int)) = true ∨ (decide ((32 : Int) < (n : Int)) = false ∧ ((a : Int) != (n : Int)) = true) ∨ (decide ((32 : Int) < (n : Int)) = false ∧ ((a : Int) != (n : Int)) = false ∧ ((b : Int) != (n : Int)) = true) ∨ (decide ((32 : Int) < (n : Int)) = false ∧ ((a : Int) != (n : Int)) = false ∧ ((b : Int) != (n : Int)) = false ∧ ((c : Int) != (n : Int)) = true) := by
    simp only [decide_eq_true_eq, decide_eq_false_iff_not, bne_iff_ne, ne_eq, bne_eq_false_iff_eq]
    omega
  clear h
  rcases hz with d1 | ⟨d1, d2⟩ | ⟨d1, d2, d3⟩ | ⟨d1, d2, d3, d4⟩
  all_goals
    go_enter Tryz.func26, Tryz.ntmps26
    go_upto_region 1 with fail
    obtain ⟨W, hW, x0, Z0, A0, A1⟩ := boxes2 w 55 zero3 55 zero3
    rw [show World.alloc (World.alloc w (Obj.cells #[Value.bool false, Value.slice none 0 0, Value.slice none 0 0] 55)) (Obj.cells #[Value.bool false, Value.slice none 0 0, Value.slice none 0 0] 55) = W from hW.symm]
    clear hW
    obtain ⟨p0, p1, p2, p3, p4, p5⟩ := box3 A0 (Ext.refl _)
    obtain ⟨q0, q1, q2, q3, q4, q5⟩ := box3 A1 (Ext.refl _)
    go_wp2_with fail
    refine bodyPost_ret (v := .tuple #[.agg #[.bool false, .slice none 0 0, .slice none 0 0], .agg #[.bool false, .slice none 0 0, .slice none 0 0], .bool false]) (by simp [results, Tryz.results26, go_sem, *]) rfl ⟨rfl, ?_⟩
    exact Ext.set3' (Ext.set3' x0 (by omega)) (by omega)

set_option maxHeartbeats 4000000 in
set_option maxRecDepth 100000 in
theorem r30_extreme_bnd (w : World) (ta la ha ia : Option Addr) (tc lc hc ic L n : Nat) (rs : List RVal) (qs : List Rat) (lo hi isl : List Int)
    (hR : Rats w ta tc rs qs L) (hS : RShort rs 1000) (hlo : IntIn w la lc lo) (hhi : IntIn w ha hc hi) (hil : IntIn w ia ic isl)
    (n1 : rs.length = n) (n2 : lo.length = n) (n3 : hi.length = n) (n4 : isl.length = n) (hn : n ≤ 32) (hL : L ≤ 1000)
    (i0 : Nat) (hi0n : i0 < n) (hb : ∀ i, i < i0 → (-1073741824 ≤ at0 lo i ∧ at0 lo i ≤ 1073741824) ∧ -1073741824 ≤ at0 hi i ∧ at0 hi i ≤ 1073741824) (hbad : ¬ ((-1073741824 ≤ at0 lo i0 ∧ at0 lo i0 ≤ 1073741824) ∧ -1073741824 ≤ at0 hi i0 ∧ at0 hi i0 ≤ 1073741824)) :
    Calls Tryz.prog 26 #[.slice ta n tc, .slice la n lc, .slice ha n hc, .slice ia n ic] w fun e w' => RxNo w e w' := by
  have HBAD := Lib.hid hbad
  clear hbad
  have hRle := hR.le; have hRcap := hR.cap; have hl1 := hlo.le; have hl2 := hlo.cap; have hh1 := hhi.le; have hh2 := hhi.cap; have hi1 := hil.le; have hi2 := hil.cap
  have HR := Lib.hid hR; have HS := Lib.hid hS; have HLO := Lib.hid hlo; have HHI := Lib.hid hhi; have HIL := Lib.hid hil; have HB := Lib.hid hb
  clear hR hS hlo hhi hil hb
  have u1 : decide ((32 : Int) < (n : Int)) = false := by simp; omega
  have u2 : ((n : Int) != (n : Int)) = false := by simp
  go_enter Tryz.func26, Tryz.ntmps26
  go_upto_region 1 with fail
  obtain ⟨W, hW, x0, Z0, A0, A1⟩ := boxes2 w 55 zero3 55 zero3
  rw [show World.alloc (World.alloc w (Obj.cells #[Value.bool false, Value.slice none 0 0, Value.slice none 0 0] 55)) (Obj.cells #[Value.bool false, Value.slice none 0 0, Value.slice none 0 0] 55) = W from hW.symm]
  clear hW
  have A0' := A0; have A1' := A1
  have HA0 := Lib.hid A0'; have HA1 := Lib.hid A1'
  have SI : Hid (RatRow W W (.slice none 0 0) [] (negQ (qs.take 0)) 1000) := by
    show RatRow _ _ _ _ _ _
    have := RatRow.start (Ext.refl W) 1000
    simpa [negQ] using this
  clear A0 A1 A0' A1'
  have hzw := Z0.out
  go_wp2_with fail
  go_loopw [12, 13] (fun vm ii wr => ∃ (i : Nat) (rm : List RVal), i ≤ i0 ∧ rm.length = i ∧ RShort rm 1000 ∧ RatRow W wr vm rm (negQ (qs.take i)) 1000 ∧ ii = .int .i64 i) (fun _ ii _ => n - (intOf ii).toNat)
  case atStart => exact ⟨0, [], Nat.zero_le _, rfl, (fun k hk => absurd hk (Nat.not_lt_zero _)), SI.out, rfl⟩
  case round =>
    obtain ⟨i, rm, hi0, hrl, hsh, hrow, rfl⟩ := hrel
    clear SI
    by_cases hlt : i < i0
    · have hE := hrow.ext
      have hEw : Ext w wr := x0.trans hE
      obtain ⟨bl, ol, rfl, cL⟩ := (HLO.out.ext hEw).cell i (by omega)
      obtain ⟨bh, oh, rfl, cH⟩ := (HHI.out.ext hEw).cell i (by omega)
      obtain ⟨bt, ot, rfl, c0, c1, c2⟩ := (HR.out.ext hEw).cell i (by omega)
      have hq := HR.out.num i (by omega)
      have hqs := HS.out i (by omega)
      have hbb := HB.out i (by omega)
      have eL : at0 lo i = lo[i] := at0_eq (by omega)
      have eH : at0 hi i = hi[i] := at0_eq (by omega)
      rw [← eL] at cL; rw [← eH] at cH
      have hlq : i < qs.length := by rw [HR.out.len]; omega
      have hq2 : negQ (qs.take (i + 1)) = negQ (qs.take i) ++ [-(qs[i]'hlq)] := by unfold negQ; rw [List.take_succ_eq_append_getElem hlq, List.map_append]; rfl
      have hqz := hq.rsz
      generalize qs[i]'hlq = q at *
      generalize rs[i] = y at *
      generalize at0 lo i = l at *
      generalize at0 hi i = h at *
      have hNe : ∀ V, Ext w V → Calls Tryz.prog 37 #[.agg #[.bool y.s, .slice y.a y.k y.c, .slice y.b y.j y.d]] V (NewRat (-q) V) := by
        intro V hV
        obtain ⟨nn, mm, g1, g2, gq, -, -⟩ := hq
        have h5 := r3_Neg V y.s _ _ _ _ _ _ _ _ (g1.ext hV) (g2.ext hV) (by omega) (by omega)
        rw [← gq] at h5
        exact h5
      have hnz : rsz (-q) ≤ 1000 := by
        have e : rsz (-q) = rsz q := by unfold rsz; rw [Rat.neg_num, Rat.neg_den, Int.natAbs_neg]
        omega
      have t1 : decide (l < (-1073741824 : Int)) = false := by simp; omega
      have t2 : decide ((1073741824 : Int) < l) = false := by simp; omega
      have t3 : decide (h < (-1073741824 : Int)) = false := by simp; omega
      have t4 : decide ((1073741824 : Int) < h) = false := by simp; omega
      have HNe := Lib.hid hNe; have HROW0 := Lib.hid hrow; have HQ2 := Lib.hid hq2; have HSH := Lib.hid hsh; have HRL := Lib.hid hrl; have HEW := Lib.hid hEw
      have bi0 : (0 : Int) ≤ (i : Int) := by omega
      have bi1 : (i : Int) < (n : Int) := by omega
      clear hNe hrow hq2 hsh hrl hq hqz eL eH hE hEw hbb
      go_wp2_with fail
      refine (HNe.out _ HEW.out).mono ?_
      intro e w2 hNR
      obtain ⟨r, rfl, hr2, x2⟩ := hNR.isCan
      clear hNR
      have hrow2 := HROW0.out.extend x2
      have hOff : Off r u12.ownBlock := off_fresh HROW0.out.own hr2.fa hr2.fb
      have hRat := hr2.isRat.mono hnz
      have hrs := hr2.short hnz
      have hsz2 := x2.size
      have hEw2 := hrow2.ext
      have hEs := hEw2.size
      have HROW := Lib.hid hrow2; have HRAT := Lib.hid hRat; have HOFF := Lib.hid hOff; have HE := Lib.hid hEw2
      clear hrow2 hRat hOff hEw2 hr2 hnz HROW0 cL cH c0 c1 c2
      go_wp2_with (at_builtin; refine wpList_append_at _ rfl _ _ 48 rfl W.heap.size 55 (.agg zero3.toArray) 3 56 Tryz.underlying48 Tryz.info_rat rfl (by decide) u12 rm.length (ratCells rm) rfl ?c1 _ 1 1 r.cells rfl rfl ?c2 ?c3 ?c4 ?c5 (by decide) ?c6 ?_; rotate_right; intro v' w3 ho he hb hz hv)
      · have xa : Ext w2 (w2.alloc (.cells #[.bool r.s, .slice r.a r.k r.c, .slice r.b r.j r.d] 55)) := (Ext.refl _).alloc _
        have hn' := (HROW.out.extend xa).snoc (HRAT.out.ext xa) HOFF.out ho.out (he.out W (HE.out.trans xa) (Nat.le_refl _)) hb.out hv.out
        refine ⟨⟨i + 1, rm ++ [r], by omega, by simp [HRL.out], ?_, by rw [HQ2.out]; exact hn', by go_num⟩, by simp only [intOf]; omega⟩
        intro k hk
        by_cases hk' : k < rm.length
        · rw [List.getElem_append_left hk']; exact HSH.out k hk'
        · rw [List.getElem_append_right (by omega)]; simpa using hrs
      · exact ownsRow_ext HROW.out.own ((Ext.refl _).alloc _)
      · intro _
        refine ⟨_, rfl, ?_⟩
        exact cells_new w2 55 r.cells
      · exact ratVals_one r
      · intro e; cases e
      · have := HRL.out; omega
      · simp; omega
    · obtain rfl : i = i0 := by omega
      have hE := hrow.ext
      have hEw : Ext w wr := x0.trans hE
      obtain ⟨bl, ol, rfl, cL⟩ := (HLO.out.ext hEw).cell i (by omega)
      obtain ⟨bh, oh, rfl, cH⟩ := (HHI.out.ext hEw).cell i (by omega)
      have eL : at0 lo i = lo[i] := at0_eq (by omega)
      have eH : at0 hi i = hi[i] := at0_eq (by omega)
      rw [← eL] at cL; rw [← eH] at cH
      have hbad := HBAD.out
      have HEW := Lib.hid hEw
      obtain ⟨p0, p1, p2, p3, p4, p5⟩ := box3 HA0.out hE
      have hq1 := HA1.out
      obtain ⟨q0, q1, q2, q3, q4, q5⟩ := box3 hq1 hE
      clear hrow hE hEw eL eH HBAD hsh hq1
      generalize at0 lo i = l at *
      generalize at0 hi i = h at *
      have bi0 : (0 : Int) ≤ (i : Int) := by omega
      have bi1 : (i : Int) < (n : Int) := by omega
      have hz : decide (l < (-1073741824 : Int)) = true ∨ (decide (l < (-1073741824 : Int)) = false ∧ decide ((1073741824 : Int) < l) = true) ∨ (decide (l < (-1073741824 : Int)) = false ∧ decide ((1073741824 : Int) < l) = false ∧ decide (h < (-1073741824 : Int)) = true) ∨ (decide (l < (-1073741824 : Int)) = false ∧ decide ((1073741824 : Int) < l) = false ∧ decide (h < (-1073741824 : Int)) = false ∧ decide ((1073741824 : Int) < h) = true) := by
        simp only [decide_eq_true_eq, decide_eq_false_iff_not]
        omega
      clear hbad
      rcases hz with t1 | ⟨t1, t2⟩ | ⟨t1, t2, t3⟩ | ⟨t1, t2, t3, t4⟩
      all_goals
        go_wp2_with fail
        refine bodyPost_ret (v := .tuple #[.agg #[.bool false, .slice none 0 0, .slice none 0 0], .agg #[.bool false, .slice none 0 0, .slice none 0 0], .bool false]) (by simp [results, Tryz.results26, go_sem, p0, p1, p2, q0, q1, q2]) rfl ⟨rfl, ?_⟩
        exact Ext.set3' (Ext.set3' HEW.out (by omega)) (by omega)

theorem r3_AddI (V : World) (y : RVal) (q : Rat) (L : Nat) (hy : IsRat V y q L) (hk : y.k ≤ 10000000) (hj : y.j ≤ 10000000) (r : RVal) (p : Rat) (B : Nat) (hr : IsCan V r p B) (hp : rsz p ≤ 10000000) :
    Calls Tryz.prog 30 #[.agg #[.bool y.s, .slice y.a y.k y.c, .slice y.b y.j y.d], .agg #[.bool r.s, .slice r.a r.k r.c, .slice r.b r.j r.d]] V (NewRat (q + p) V) := by
  obtain ⟨n, m, g1, g2, gq, -, -⟩ := hy
  have hs := hr.short hp
  have h5 := r3_Add V y.s _ _ _ _ _ _ _ _ g1 g2 r.s _ _ _ _ _ _ _ _ hr.num hr.den (by omega) (by omega) (by omega) (by omega)
  rw [← gq, hr.s, sgn_num, Rat.mkRat_self] at h5
  rw [hr.s]
  exact h5
theorem r3_SubI (V : World) (y : RVal) (q : Rat) (L : Nat) (hy : IsRat V y q L) (hk : y.k ≤ 10000000) (hj : y.j ≤ 10000000) (r : RVal) (p : Rat) (B : Nat) (hr : IsCan V r p B) (hp : rsz p ≤ 10000000) :
    Calls Tryz.prog 42 #[.agg #[.bool y.s, .slice y.a y.k y.c, .slice y.b y.j y.d], .agg #[.bool r.s, .slice r.a r.k r.c, .slice r.b r.j r.d]] V (NewRat (q - p) V) := by
  obtain ⟨n, m, g1, g2, gq, -, -⟩ := hy
  have hs := hr.short hp
  have h5 := r3_Sub V y.s _ _ _ _ _ _ _ _ g1 g2 r.s _ _ _ _ _ _ _ _ hr.num hr.den (by omega) (by omega) (by omega) (by omega)
  rw [← gq, hr.s, sgn_num, Rat.mkRat_self] at h5
  rw [hr.s]
  exact h5

/-- The second loop. -/
def UpAt (w : World) (n : Nat) (t : Nat → Rat) (isl lo hi : Nat → Int) (am : Option Addr) (cm : Nat) (rm : List RVal) (qm : List Rat) (i : Nat) (p q : Rat) (wr : World) : Prop :=
  (∀ j, j < i → OkI n isl lo hi (isl j)) ∧ Upto n t isl lo hi i q ∧ Upto n (fun j => -(t j)) isl lo hi i (-p) ∧ rsz p ≤ 1 + i * 40000 ∧ rsz q ≤ 1 + i * 40000 ∧ XA w p q (1 + i * 40000) am cm rm qm wr

set_option maxHeartbeats 8000000 in
set_option maxRecDepth 100000 in
theorem r30_extreme (w : World) (ta la ha ia : Option Addr) (tc lc hc ic L n : Nat) (rs : List RVal) (qs : List Rat) (lo hi isl : List Int)
    (hR : Rats w ta tc rs qs L) (hS : RShort rs 1000) (hlo : IntIn w la lc lo) (hhi : IntIn w ha hc hi) (hil : IntIn w ia ic isl)
    (n1 : rs.length = n) (n2 : lo.length = n) (n3 : hi.length = n) (n4 : isl.length = n) (hn : n ≤ 32) (hL : L ≤ 1000)
    (hb : ∀ i, i < n → (-1073741824 ≤ at0 lo i ∧ at0 lo i ≤ 1073741824) ∧ -1073741824 ≤ at0 hi i ∧ at0 hi i ≤ 1073741824) :
    Calls Tryz.prog 26 #[.slice ta n tc, .slice la n lc, .slice ha n hc, .slice ia n ic] w fun e w' => RxRes w n (atQ qs) (at0 isl) (at0 lo) (at0 hi) e w' := by
  have hRle := hR.le; have hRcap := hR.cap; have hl1 := hlo.le; have hl2 := hlo.cap; have hh1 := hhi.le; have hh2 := hhi.cap; have hi1 := hil.le; have hi2 := hil.cap
  have HR := Lib.hid hR; have HS := Lib.hid hS; have HLO := Lib.hid hlo; have HHI := Lib.hid hhi; have HIL := Lib.hid hil; have HB := Lib.hid hb
  clear hR hS hlo hhi hil hb
  have u1 : decide ((32 : Int) < (n : Int)) = false := by simp; omega
  have u2 : ((n : Int) != (n : Int)) = false := by simp
  go_enter Tryz.func26, Tryz.ntmps26
  go_upto_region 1 with fail
  obtain ⟨W, hW, x0, Z0, A0, A1⟩ := boxes2 w 55 zero3 55 zero3
  rw [show World.alloc (World.alloc w (Obj.cells #[Value.bool false, Value.slice none 0 0, Value.slice none 0 0] 55)) (Obj.cells #[Value.bool false, Value.slice none 0 0, Value.slice none 0 0] 55) = W from hW.symm]
  clear hW
  have A0' := A0; have A1' := A1
  have HA0 := Lib.hid A0'; have HA1 := Lib.hid A1'
  have SI : Hid (RatRow W W (.slice none 0 0) [] (negQ (qs.take 0)) 1000) := by
    show RatRow _ _ _ _ _ _
    have := RatRow.start (Ext.refl W) 1000
    simpa [negQ] using this
  clear A0 A1 A0' A1'
  have hzw := Z0.out
  go_wp2_with fail
  go_loopw [12, 13] (fun vm ii wr => ∃ (i : Nat) (rm : List RVal), i ≤ n ∧ rm.length = i ∧ RShort rm 1000 ∧ RatRow W wr vm rm (negQ (qs.take i)) 1000 ∧ ii = .int .i64 i) (fun _ ii _ => n - (intOf ii).toNat)
  case atStart => exact ⟨0, [], Nat.zero_le _, rfl, (fun k hk => absurd hk (Nat.not_lt_zero _)), SI.out, rfl⟩
  case round =>
    obtain ⟨i, rm, hi0, hrl, hsh, hrow, rfl⟩ := hrel
    clear SI
    by_cases hlt : i < n
    · have hE := hrow.ext
      have hEw : Ext w wr := x0.trans hE
      obtain ⟨bl, ol, rfl, cL⟩ := (HLO.out.ext hEw).cell i (by omega)
      obtain ⟨bh, oh, rfl, cH⟩ := (HHI.out.ext hEw).cell i (by omega)
      obtain ⟨bt, ot, rfl, c0, c1, c2⟩ := (HR.out.ext hEw).cell i (by omega)
      have hq := HR.out.num i (by omega)
      have hqs := HS.out i (by omega)
      have hbb := HB.out i (by omega)
      have eL : at0 lo i = lo[i] := at0_eq (by omega)
      have eH : at0 hi i = hi[i] := at0_eq (by omega)
      rw [← eL] at cL; rw [← eH] at cH
      have hlq : i < qs.length := by rw [HR.out.len]; omega
      have hq2 : negQ (qs.take (i + 1)) = negQ (qs.take i) ++ [-(qs[i]'hlq)] := by unfold negQ; rw [List.take_succ_eq_append_getElem hlq, List.map_append]; rfl
      have hqz := hq.rsz
      generalize qs[i]'hlq = q at *
      generalize rs[i] = y at *
      generalize at0 lo i = l at *
      generalize at0 hi i = h at *
      have hNe : ∀ V, Ext w V → Calls Tryz.prog 37 #[.agg #[.bool y.s, .slice y.a y.k y.c, .slice y.b y.j y.d]] V (NewRat (-q) V) := by
        intro V hV
        obtain ⟨nn, mm, g1, g2, gq, -, -⟩ := hq
        have h5 := r3_Neg V y.s _ _ _ _ _ _ _ _ (g1.ext hV) (g2.ext hV) (by omega) (by omega)
        rw [← gq] at h5
        exact h5
      have hnz : rsz (-q) ≤ 1000 := by
        have e : rsz (-q) = rsz q := by unfold rsz; rw [Rat.neg_num, Rat.neg_den, Int.natAbs_neg]
        omega
      have t1 : decide (l < (-1073741824 : Int)) = false := by simp; omega
      have t2 : decide ((1073741824 : Int) < l) = false := by simp; omega
      have t3 : decide (h < (-1073741824 : Int)) = false := by simp; omega
      have t4 : decide ((1073741824 : Int) < h) = false := by simp; omega
      have HNe := Lib.hid hNe; have HROW0 := Lib.hid hrow; have HQ2 := Lib.hid hq2; have HSH := Lib.hid hsh; have HRL := Lib.hid hrl; have HEW := Lib.hid hEw
      have bi0 : (0 : Int) ≤ (i : Int) := by omega
      have bi1 : (i : Int) < (n : Int) := by omega
      clear hNe hrow hq2 hsh hrl hq hqz eL eH hE hEw hbb
      go_wp2_with fail
      refine (HNe.out _ HEW.out).mono ?_
      intro e w2 hNR
      obtain ⟨r, rfl, hr2, x2⟩ := hNR.isCan
      clear hNR
      have hrow2 := HROW0.out.extend x2
      have hOff : Off r u12.ownBlock := off_fresh HROW0.out.own hr2.fa hr2.fb
      have hRat := hr2.isRat.mono hnz
      have hrs := hr2.short hnz
      have hsz2 := x2.size
      have hEw2 := hrow2.ext
      have hEs := hEw2.size
      have HROW := Lib.hid hrow2; have HRAT := Lib.hid hRat; have HOFF := Lib.hid hOff; have HE := Lib.hid hEw2
      clear hrow2 hRat hOff hEw2 hr2 hnz HROW0 cL cH c0 c1 c2
      go_wp2_with (at_builtin; refine wpList_append_at _ rfl _ _ 48 rfl W.heap.size 55 (.agg zero3.toArray) 3 56 Tryz.underlying48 Tryz.info_rat rfl (by decide) u12 rm.length (ratCells rm) rfl ?c1 _ 1 1 r.cells rfl rfl ?c2 ?c3 ?c4 ?c5 (by decide) ?c6 ?_; rotate_right; intro v' w3 ho he hb hz hv)
      · have xa : Ext w2 (w2.alloc (.cells #[.bool r.s, .slice r.a r.k r.c, .slice r.b r.j r.d] 55)) := (Ext.refl _).alloc _
        have hn' := (HROW.out.extend xa).snoc (HRAT.out.ext xa) HOFF.out ho.out (he.out W (HE.out.trans xa) (Nat.le_refl _)) hb.out hv.out
        refine ⟨⟨i + 1, rm ++ [r], by omega, by simp [HRL.out], ?_, by rw [HQ2.out]; exact hn', by go_num⟩, by simp only [intOf]; omega⟩
        intro k hk
        by_cases hk' : k < rm.length
        · rw [List.getElem_append_left hk']; exact HSH.out k hk'
        · rw [List.getElem_append_right (by omega)]; simpa using hrs
      · exact ownsRow_ext HROW.out.own ((Ext.refl _).alloc _)
      · intro _
        refine ⟨_, rfl, ?_⟩
        exact cells_new w2 55 r.cells
      · exact ratVals_one r
      · intro e; cases e
      · have := HRL.out; omega
      · simp; omega
    · obtain rfl : n = i := by omega
      have hE := hrow.ext
      obtain ⟨am, cm, rfl, hRm, hFm⟩ := hrow.ratsFr (by omega)
      have hql : qs.length = n := by rw [HR.out.len]; omega
      rw [show qs.take n = qs from by rw [← hql]; exact List.take_length] at hRm
      rw [hzw] at hFm
      have hzz : rsz 0 ≤ 1 := by decide +kernel
      have hst : UpAt w n (atQ qs) (at0 isl) (at0 lo) (at0 hi) am cm rm (negQ qs) 0 0 0 wr :=
        ⟨fun j hj => absurd hj (Nat.not_lt_zero _), Upto.zero _ _ _ _ _, by rw [show (-(0 : Rat)) = 0 from by grind]; exact Upto.zero _ _ _ _ _, by simpa using hzz, by simpa using hzz,
          ⟨x0.trans hE, ⟨⟨false, none, 0, 0, none, 0, 0⟩, HA0.out.ext hE, isRat_zero _ _, Nat.zero_le _, Nat.zero_le _⟩, ⟨⟨false, none, 0, 0, none, 0, 0⟩, HA1.out.ext hE, isRat_zero _ _, Nat.zero_le _, Nat.zero_le _⟩, hRm⟩⟩
      have HST := Lib.hid hst; have HSM := Lib.hid hsh; have HFM := Lib.hid hFm
      have hnm : atQ (negQ qs) = fun i => -(atQ qs i) := funext (negQ_at qs)
      have HNM := Lib.hid hnm
      have hGr1 : ∀ V, Ext w V → ∀ k, Calls Tryz.prog 73 #[.slice ta n tc, .slice la n lc, .slice ha n hc, .slice ia n ic, .int .i64 k] V fun e w' => GrRes V n (atQ qs) (at0 isl) (at0 lo) (at0 hi) k e w' := fun V hV k =>
        r30_greatest V ta la ha ia tc lc hc ic L n rs qs lo hi isl k (HR.out.ext hV) HS.out (HLO.out.ext hV) (HHI.out.ext hV) (HIL.out.ext hV) n1 n2 n3 n4 hn hL HB.out
      have hGr2 : ∀ V, Ext w V → Rats V am cm rm (negQ qs) 1000 → ∀ k, Calls Tryz.prog 73 #[.slice am n cm, .slice la n lc, .slice ha n hc, .slice ia n ic, .int .i64 k] V fun e w' => GrRes V n (fun i => -(atQ qs i)) (at0 isl) (at0 lo) (at0 hi) k e w' := fun V hV hRv k => by
        have h5 := r30_greatest V am la ha ia cm lc hc ic 1000 n rm (negQ qs) lo hi isl k hRv HSM.out (HLO.out.ext hV) (HHI.out.ext hV) (HIL.out.ext hV) hrl n2 n3 n4 hn (by omega) HB.out
        rw [HNM.out] at h5
        exact h5
      have hsz : ∀ i, i < n → rsz (atQ qs i) ≤ 1000 := by
        intro i hi'
        rw [atQ_eq (by rw [HR.out.len]; omega)]
        have := (HR.out.num i (by omega)).rsz
        omega
      have hasz : ∀ (t : Nat → Rat) (x : Nat → Int) (k : Int), (∀ i, i < n → rsz (t i) ≤ 1000) → Opt n t (at0 isl) (at0 lo) (at0 hi) x k → rsz (msum t x (fun j => at0 isl j == k) n) ≤ 39000 := by
        intro t x k ht hx
        have h5 := msum_rsz t x (fun j => at0 isl j == k) 1000 n ht (fun i hi hk => by
          have h6 := hx.box i hi (by simpa using hk)
          have h7 := HB.out i hi
          omega)
        have := Nat.mul_le_mul_right 1006 hn
        omega
      have HSZ := Lib.hid hsz; have HASZ := Lib.hid hasz; have HG1 := Lib.hid hGr1; have HG2 := Lib.hid hGr2
      rw [hrl]
      clear hst hsh hRm hFm hnm hGr1 hGr2 hrow hE hsz hasz HA0 HA1 hi0 hlt hrl hql hzz
      go_wp2_with fail
      go_loopw [14] (fun ii wl => ∃ (i : Nat) (p q : Rat), i ≤ n ∧ UpAt w n (atQ qs) (at0 isl) (at0 lo) (at0 hi) am cm rm (negQ qs) i p q wl ∧ ii = .int .i64 i) (fun ii _ => n - (intOf ii).toNat)
      case atStart => exact ⟨0, 0, 0, Nat.zero_le _, HST.out, rfl⟩
      case round =>
        obtain ⟨i, p, q, hi0, ⟨hok, hup1, hup2, hz1, hz2, hX⟩, rfl⟩ := hrel
        clear HST
        by_cases hlt : i < n
        · obtain ⟨bi, oi, rfl, cI0⟩ := HIL.out.cell i (by omega)
          have eI : at0 isl i = isl[i] := at0_eq (by omega)
          rw [← eI] at cI0
          have hseen0 : seen (at0 isl) 0 i = false := by simp [seen]
          have HOK := Lib.hid hok; have HU1 := Lib.hid hup1; have HU2 := Lib.hid hup2; have HX := Lib.hid hX; have HCI := Lib.hid cI0
          have bi0 : (0 : Int) ≤ (i : Int) := by omega
          have bi1 : (i : Int) < (n : Int) := by omega
          clear hok hup1 hup2 hX eI cI0
          go_wp2_with fail
          go_loopw [15, 16] (fun vf kk wl => ∃ j : Nat, j ≤ i ∧ XA w p q (1 + i * 40000) am cm rm (negQ qs) wl ∧ vf = .bool (!(seen (at0 isl) j i)) ∧ kk = .int .i64 j) (fun _ kk _ => i - (intOf kk).toNat)
          case atStart => exact ⟨0, Nat.zero_le _, HX.out, by rw [hseen0]; rfl, rfl⟩
          case round =>
            obtain ⟨j, hj0, hX, rfl, rfl⟩ := hrel
            clear HX hseen0
            by_cases hlt' : j < i
            · obtain ⟨bi', oi', e', cJ0⟩ := HIL.out.cell j (by omega)
              cases e'
              have eJ : at0 isl j = isl[j] := at0_eq (by omega)
              rw [← eJ] at cJ0
              have cJ := cell_ext hX.ext.drew cJ0
              have cI := cell_ext hX.ext.drew HCI.out
              have hXn : Hid (XA w p q (1 + i * 40000) am cm rm (negQ qs) wr.drew) := hX.ext' (Ext.refl _).drew
              have bj0 : (0 : Int) ≤ (j : Int) := by omega
              have bj1 : (j : Int) < (n : Int) := by omega
              have hss : seen (at0 isl) (j + 1) i = true ↔ (seen (at0 isl) j i = true ∨ at0 isl i = at0 isl j) := seen_succ
              have HSS := Lib.hid hss
              clear hX cJ0 eJ hss
              cases hs : seen (at0 isl) j i with
              | true =>
                have hs1 : seen (at0 isl) (j + 1) i = true := HSS.out.2 (Or.inl hs)
                have HS1 := Lib.hid hs1
                clear hs1 hs
                simp only [Bool.not_true]
                go_wp2_with fail
                refine wp_region_Y (fun w' => w'.cell? ⟨bi, oi + j, none⟩ = some (.int .i64 (at0 isl j)) ∧ w'.cell? ⟨bi, oi + i, none⟩ = some (.int .i64 (at0 isl i))) (fun w' => True) (fun i => false) (by kernel_rfl) (⟨cJ, cI⟩) (trivial) (fun hHeld hFirst => ?_)
                refine wpAnyY_take (i := 0) (v := .bool false) rfl (by kernel_rfl) (by kernel_rfl) (by kernel_rfl) (by kernel_rfl) (fun _ _ _ h => h) (Or.inl ⟨by rfl, fun w hSw => by (obtain ⟨e0, e1⟩ := hSw; go_simp)⟩) hHeld (Or.inl hFirst) ?_
                try simp only [List.getElem_toArray, List.getElem_cons_zero, Act.put, List.setIfInBounds_toArray, List.set_cons_zero, List.set_cons_succ]
                refine wpAnyY_take (i := 1) (v := .bool false) rfl (by kernel_rfl) (by kernel_rfl) (by kernel_rfl) (by kernel_rfl) (fun _ _ _ h => h) (Or.inl ⟨by rfl, fun w hSw => by (obtain ⟨e0, e1⟩ := hSw; go_simp)⟩) hHeld (Or.inl hFirst) ?_
                try simp only [List.getElem_toArray, List.getElem_cons_succ, List.getElem_cons_zero, Act.put, List.setIfInBounds_toArray, List.set_cons_zero, List.set_cons_succ]
                refine wpAnyY_take (i := 2) (v := undef) rfl (by kernel_rfl) (by kernel_rfl) (by kernel_rfl) (by kernel_rfl) (fun _ _ _ h => h) (Or.inr ⟨by rfl, rfl⟩) hHeld (Or.inl hFirst) ?_
                try simp only [List.getElem_toArray, List.getElem_cons_succ, List.getElem_cons_zero, Act.put, List.setIfInBounds_toArray, List.set_cons_zero, List.set_cons_succ]
                refine wpAnyY_take (i := 3) (v := undef) rfl (by kernel_rfl) (by kernel_rfl) (by kernel_rfl) (by kernel_rfl) (fun _ _ _ h => h) (Or.inr ⟨by rfl, rfl⟩) hHeld (Or.inl hFirst) ?_
                try simp only [List.getElem_toArray, List.getElem_cons_succ, List.getElem_cons_zero, Act.put, List.setIfInBounds_toArray, List.set_cons_zero, List.set_cons_succ]
                refine wpAnyY_take (i := 4) (v := undef) rfl (by kernel_rfl) (by kernel_rfl) (by kernel_rfl) (by kernel_rfl) (fun _ _ _ h => h) (Or.inr ⟨by rfl, rfl⟩) hHeld (Or.inl hFirst) ?_
                try simp only [List.getElem_toArray, List.getElem_cons_succ, List.getElem_cons_zero, Act.put, List.setIfInBounds_toArray, List.set_cons_zero, List.set_cons_succ]
                refine wpAnyY_take (i := 5) (v := undef) rfl (by kernel_rfl) (by kernel_rfl) (by kernel_rfl) (by kernel_rfl) (fun _ _ _ h => h) (Or.inr ⟨by rfl, rfl⟩) hHeld (Or.inl hFirst) ?_
                try simp only [List.getElem_toArray, List.getElem_cons_succ, List.getElem_cons_zero, Act.put, List.setIfInBounds_toArray, List.set_cons_zero, List.set_cons_succ]
                refine wpAnyY_take (i := 6) (v := undef) rfl (by kernel_rfl) (by kernel_rfl) (by kernel_rfl) (by kernel_rfl) (fun _ _ _ h => h) (Or.inr ⟨by rfl, rfl⟩) hHeld (Or.inl hFirst) ?_
                try simp only [List.getElem_toArray, List.getElem_cons_succ, List.getElem_cons_zero, Act.put, List.setIfInBounds_toArray, List.set_cons_zero, List.set_cons_succ]
                refine wpAnyY_take (i := 7) (v := undef) rfl (by kernel_rfl) (by kernel_rfl) (by kernel_rfl) (by kernel_rfl) (fun _ _ _ h => h) (Or.inr ⟨by rfl, rfl⟩) hHeld (Or.inl hFirst) ?_
                try simp only [List.getElem_toArray, List.getElem_cons_succ, List.getElem_cons_zero, Act.put, List.setIfInBounds_toArray, List.set_cons_zero, List.set_cons_succ]
                refine wpAnyY_take (i := 8) (v := undef) rfl (by kernel_rfl) (by kernel_rfl) (by kernel_rfl) (by kernel_rfl) (fun _ _ _ h => h) (Or.inr ⟨by rfl, rfl⟩) hHeld (Or.inl hFirst) ?_
                try simp only [List.getElem_toArray, List.getElem_cons_succ, List.getElem_cons_zero, Act.put, List.setIfInBounds_toArray, List.set_cons_zero, List.set_cons_succ]
                refine wpAnyY_take (i := 9) (v := undef) rfl (by kernel_rfl) (by kernel_rfl) (by kernel_rfl) (by kernel_rfl) (fun _ _ _ h => h) (Or.inr ⟨by rfl, rfl⟩) hHeld (Or.inl hFirst) ?_
                try simp only [List.getElem_toArray, List.getElem_cons_succ, List.getElem_cons_zero, Act.put, List.setIfInBounds_toArray, List.set_cons_zero, List.set_cons_succ]
                refine wpAnyY_take (i := 10) (v := undef) rfl (by kernel_rfl) (by kernel_rfl) (by kernel_rfl) (by kernel_rfl) (fun _ _ _ h => h) (Or.inr ⟨by rfl, rfl⟩) hHeld (Or.inl hFirst) ?_
                try simp only [List.getElem_toArray, List.getElem_cons_succ, List.getElem_cons_zero, Act.put, List.setIfInBounds_toArray, List.set_cons_zero, List.set_cons_succ]
                refine wpAnyY_take (i := 11) (v := .bool false) rfl (by kernel_rfl) (by kernel_rfl) (by kernel_rfl) (by kernel_rfl) (fun _ _ _ h => h) (Or.inl ⟨by rfl, fun w hSw => by (obtain ⟨e0, e1⟩ := hSw; go_simp)⟩) hHeld (Or.inl hFirst) ?_
                try simp only [List.getElem_toArray, List.getElem_cons_succ, List.getElem_cons_zero, Act.put, List.setIfInBounds_toArray, List.set_cons_zero, List.set_cons_succ]
                refine wpAnyY_take (i := 12) (v := .bool false) rfl (by kernel_rfl) (by kernel_rfl) (by kernel_rfl) (by kernel_rfl) (fun _ _ _ h => h) (Or.inl ⟨by rfl, fun w hSw => by (obtain ⟨e0, e1⟩ := hSw; go_simp)⟩) hHeld (Or.inl hFirst) ?_
                try simp only [List.getElem_toArray, List.getElem_cons_succ, List.getElem_cons_zero, Act.put, List.setIfInBounds_toArray, List.set_cons_zero, List.set_cons_succ]
                refine wpAnyY_done (by kernel_rfl) ?_ _
                clear hHeld hFirst
                clear cI cJ
                go_wp2_with fail
                exact ⟨⟨j + 1, by omega, hXn.out, by rw [HS1.out]; rfl, by go_num⟩, by simp only [intOf]; omega⟩
              | false =>
                have hs1 : seen (at0 isl) (j + 1) i = (at0 isl i == at0 isl j) := by
                  rw [Bool.eq_iff_iff, HSS.out, hs]; simp
                have HS1 := Lib.hid hs1
                clear hs1 hs
                simp only [Bool.not_false]
                obtain ⟨cj, hcj⟩ : ∃ cj, cj = at0 isl j := ⟨_, rfl⟩
                obtain ⟨ci, hci⟩ : ∃ ci, ci = at0 isl i := ⟨_, rfl⟩
                rw [← hcj] at cJ; rw [← hci] at cI
                have HCJ := Lib.hid hcj; have HCI2 := Lib.hid hci
                clear hcj hci
                go_wp2_with fail
                refine wp_region_Y (fun w' => w'.cell? ⟨bi, oi + j, none⟩ = some (.int .i64 cj) ∧ w'.cell? ⟨bi, oi + i, none⟩ = some (.int .i64 ci)) (fun w' => True) (fun i => false) (by kernel_rfl) (⟨cJ, cI⟩) (trivial) (fun hHeld hFirst => ?_)
                refine wpAnyY_take (i := 0) (v := .bool true) rfl (by kernel_rfl) (by kernel_rfl) (by kernel_rfl) (by kernel_rfl) (fun _ _ _ h => h) (Or.inl ⟨by rfl, fun w hSw => by (obtain ⟨e0, e1⟩ := hSw; go_simp)⟩) hHeld (Or.inl hFirst) ?_
                try simp only [List.getElem_toArray, List.getElem_cons_zero, Act.put, List.setIfInBounds_toArray, List.set_cons_zero, List.set_cons_succ]
                refine wpAnyY_take (i := 1) (v := .bool true) rfl (by kernel_rfl) (by kernel_rfl) (by kernel_rfl) (by kernel_rfl) (fun _ _ _ h => h) (Or.inl ⟨by rfl, fun w hSw => by (obtain ⟨e0, e1⟩ := hSw; go_simp)⟩) hHeld (Or.inl hFirst) ?_
                try simp only [List.getElem_toArray, List.getElem_cons_succ, List.getElem_cons_zero, Act.put, List.setIfInBounds_toArray, List.set_cons_zero, List.set_cons_succ]
                refine wpAnyY_take (i := 2) (v := .slice (some ⟨bi, oi, none⟩) n ic) rfl (by kernel_rfl) (by kernel_rfl) (by kernel_rfl) (by kernel_rfl) (fun _ _ _ h => h) (Or.inl ⟨by rfl, fun w hSw => by (obtain ⟨e0, e1⟩ := hSw; go_simp)⟩) hHeld (Or.inl hFirst) ?_
                try simp only [List.getElem_toArray, List.getElem_cons_succ, List.getElem_cons_zero, Act.put, List.setIfInBounds_toArray, List.set_cons_zero, List.set_cons_succ]
                refine wpAnyY_take (i := 3) (v := .int .i64 (j : Int)) rfl (by kernel_rfl) (by kernel_rfl) (by kernel_rfl) (by kernel_rfl) (fun _ _ _ h => h) (Or.inl ⟨by rfl, fun w hSw => by (obtain ⟨e0, e1⟩ := hSw; go_simp)⟩) hHeld (Or.inl hFirst) ?_
                try simp only [List.getElem_toArray, List.getElem_cons_succ, List.getElem_cons_zero, Act.put, List.setIfInBounds_toArray, List.set_cons_zero, List.set_cons_succ]
                refine wpAnyY_take (i := 4) (v := .pointer (some ⟨bi, oi + j, none⟩)) rfl (by kernel_rfl) (by kernel_rfl) (by kernel_rfl) (by kernel_rfl) (fun _ _ _ h => h) (Or.inl ⟨by rfl, fun w hSw => by (obtain ⟨e0, e1⟩ := hSw; go_simp)⟩) hHeld (Or.inl hFirst) ?_
                try simp only [List.getElem_toArray, List.getElem_cons_succ, List.getElem_cons_zero, Act.put, List.setIfInBounds_toArray, List.set_cons_zero, List.set_cons_succ]
                refine wpAnyY_take (i := 5) (v := .int .i64 cj) rfl (by kernel_rfl) (by kernel_rfl) (by kernel_rfl) (by kernel_rfl) (fun _ _ _ h => h) (Or.inl ⟨by rfl, fun w hSw => by (obtain ⟨e0, e1⟩ := hSw; go_simp)⟩) hHeld (Or.inl hFirst) ?_
                try simp only [List.getElem_toArray, List.getElem_cons_succ, List.getElem_cons_zero, Act.put, List.setIfInBounds_toArray, List.set_cons_zero, List.set_cons_succ]
                refine wpAnyY_take (i := 6) (v := .slice (some ⟨bi, oi, none⟩) n ic) rfl (by kernel_rfl) (by kernel_rfl) (by kernel_rfl) (by kernel_rfl) (fun _ _ _ h => h) (Or.inl ⟨by rfl, fun w hSw => by (obtain ⟨e0, e1⟩ := hSw; go_simp)⟩) hHeld (Or.inl hFirst) ?_
                try simp only [List.getElem_toArray, List.getElem_cons_succ, List.getElem_cons_zero, Act.put, List.setIfInBounds_toArray, List.set_cons_zero, List.set_cons_succ]
                refine wpAnyY_take (i := 7) (v := .int .i64 (i : Int)) rfl (by kernel_rfl) (by kernel_rfl) (by kernel_rfl) (by kernel_rfl) (fun _ _ _ h => h) (Or.inl ⟨by rfl, fun w hSw => by (obtain ⟨e0, e1⟩ := hSw; go_simp)⟩) hHeld (Or.inl hFirst) ?_
                try simp only [List.getElem_toArray, List.getElem_cons_succ, List.getElem_cons_zero, Act.put, List.setIfInBounds_toArray, List.set_cons_zero, List.set_cons_succ]
                refine wpAnyY_take (i := 8) (v := .pointer (some ⟨bi, oi + i, none⟩)) rfl (by kernel_rfl) (by kernel_rfl) (by kernel_rfl) (by kernel_rfl) (fun _ _ _ h => h) (Or.inl ⟨by rfl, fun w hSw => by (obtain ⟨e0, e1⟩ := hSw; go_simp)⟩) hHeld (Or.inl hFirst) ?_
                try simp only [List.getElem_toArray, List.getElem_cons_succ, List.getElem_cons_zero, Act.put, List.setIfInBounds_toArray, List.set_cons_zero, List.set_cons_succ]
                refine wpAnyY_take (i := 9) (v := .int .i64 ci) rfl (by kernel_rfl) (by kernel_rfl) (by kernel_rfl) (by kernel_rfl) (fun _ _ _ h => h) (Or.inl ⟨by rfl, fun w hSw => by (obtain ⟨e0, e1⟩ := hSw; go_simp)⟩) hHeld (Or.inl hFirst) ?_
                try simp only [List.getElem_toArray, List.getElem_cons_succ, List.getElem_cons_zero, Act.put, List.setIfInBounds_toArray, List.set_cons_zero, List.set_cons_succ]
                refine wpAnyY_take (i := 10) (v := .bool (cj != ci)) rfl (by kernel_rfl) (by kernel_rfl) (by kernel_rfl) (by kernel_rfl) (fun _ _ _ h => h) (Or.inl ⟨by rfl, fun w hSw => by (obtain ⟨e0, e1⟩ := hSw; go_simp)⟩) hHeld (Or.inl hFirst) ?_
                try simp only [List.getElem_toArray, List.getElem_cons_succ, List.getElem_cons_zero, Act.put, List.setIfInBounds_toArray, List.set_cons_zero, List.set_cons_succ]
                refine wpAnyY_take (i := 11) (v := .bool (cj != ci)) rfl (by kernel_rfl) (by kernel_rfl) (by kernel_rfl) (by kernel_rfl) (fun _ _ _ h => h) (Or.inl ⟨by rfl, fun w hSw => by (obtain ⟨e0, e1⟩ := hSw; go_simp)⟩) hHeld (Or.inl hFirst) ?_
                try simp only [List.getElem_toArray, List.getElem_cons_succ, List.getElem_cons_zero, Act.put, List.setIfInBounds_toArray, List.set_cons_zero, List.set_cons_succ]
                refine wpAnyY_take (i := 12) (v := .bool (cj != ci)) rfl (by kernel_rfl) (by kernel_rfl) (by kernel_rfl) (by kernel_rfl) (fun _ _ _ h => h) (Or.inl ⟨by rfl, fun w hSw => by (obtain ⟨e0, e1⟩ := hSw; go_simp)⟩) hHeld (Or.inl hFirst) ?_
                try simp only [List.getElem_toArray, List.getElem_cons_succ, List.getElem_cons_zero, Act.put, List.setIfInBounds_toArray, List.set_cons_zero, List.set_cons_succ]
                refine wpAnyY_done (by kernel_rfl) ?_ _
                clear hHeld hFirst
                clear cI cJ
                go_wp2_with fail
                exact ⟨⟨j + 1, by omega, hXn.out, by rw [HS1.out, ← HCJ.out, ← HCI2.out]; simp [bne, Bool.beq_comm], by go_num⟩, by simp only [intOf]; omega⟩
            · obtain rfl : i = j := by omega
              have hEx := hX.ext
              have cI := cell_ext hEx HCI.out
              have HX := Lib.hid hX; have HEX := Lib.hid hEx
              clear hX
              cases hs : seen (at0 isl) i i with
              | true =>
                have hnx : Hid (UpAt w n (atQ qs) (at0 isl) (at0 lo) (at0 hi) am cm rm (negQ qs) (i + 1) p q wr) :=
                  ⟨fun j hj => by
                    by_cases hji : j = i
                    · subst hji
                      obtain ⟨m, h1, h2⟩ := seen_iff.1 hs
                      rw [← h2]; exact HOK.out m h1
                    · exact HOK.out j (by omega), HU1.out.same hs, HU2.out.same hs, by rw [Nat.succ_mul]; omega, by rw [Nat.succ_mul]; omega, HX.out.mono (by rw [Nat.succ_mul]; omega)⟩
                simp only [Bool.not_true]
                clear hs hEx cI
                go_wp2_with fail
                exact ⟨⟨i + 1, p, q, by omega, hnx.out, by go_num⟩, by simp only [intOf]; omega⟩
              | false =>
                simp only [Bool.not_false]
                have HSN := Lib.hid hs
                obtain ⟨k, hk⟩ : ∃ k, k = at0 isl i := ⟨_, rfl⟩
                rw [← hk] at cI
                have HK := Lib.hid hk
                clear hs hk
                go_wp2_with fail
                refine (HG1.out _ HEX.out k).mono ?_
                rintro e w2 ⟨x2, ra, ba, rfl, hca⟩
                have hE2 := HEX.out.trans x2
                rw [HK.out] at hca
                have HCA := Lib.hid hca
                clear hca cI
                go_upto_region 21 with fail
                obtain ⟨W3, hW3, x3, Z3, A3⟩ := boxes1 w2 55 [.bool ra.s, .slice ra.a ra.k ra.c, .slice ra.b ra.j ra.d]
                rw [show w2.alloc (.cells #[.bool ra.s, .slice ra.a ra.k ra.c, .slice ra.b ra.j ra.d] 55) = W3 from hW3.symm]
                clear hW3
                have hE3 := hE2.trans x3
                have cI := cell_ext hE3 HCI.out
                rw [← HK.out] at cI
                obtain ⟨Ba, hBa⟩ : ∃ Ba, Ba = w2.heap.size := ⟨_, rfl⟩
                rw [← hBa] at A3 ⊢
                have HA3 := Lib.hid A3
                have hBaw : w.heap.size + 1 < Ba := by have := HX.out.most; obtain ⟨_, h5, _⟩ := this; have := h5.lt; have := x2.size; omega
                have hX3 := HX.out.ext' (x2.trans x3)
                have HX3 := Lib.hid hX3
                have HE3 := Lib.hid hE3
                clear hBa A3 Z3 hX3 hE2 hE3 hEx
                go_wp2_with fail
                refine (HG2.out _ HE3.out HX3.out.minus k).mono ?_
                rintro e w4 ⟨x4, rb, bb, rfl, hcb⟩
                rw [HK.out] at hcb
                have HCB := Lib.hid hcb
                clear hcb cI
                go_upto_region 22 with fail
                obtain ⟨W5, hW5, x5, Z5, A5⟩ := boxes1 w4 55 [.bool rb.s, .slice rb.a rb.k rb.c, .slice rb.b rb.j rb.d]
                rw [show w4.alloc (.cells #[.bool rb.s, .slice rb.a rb.k rb.c, .slice rb.b rb.j rb.d] 55) = W5 from hW5.symm]
                clear hW5
                obtain ⟨Bb, hBb⟩ : ∃ Bb, Bb = w4.heap.size := ⟨_, rfl⟩
                rw [← hBb] at A5 ⊢
                have hBbw : w.heap.size + 1 < Bb := by have := HA3.out.lt; have := x4.size; omega
                have hX5 := HX3.out.ext' (x4.trans x5)
                have a3 := HA3.out.ext (x4.trans x5)
                obtain ⟨r1, h81, h82, h83, h84⟩ := hX5.least
                obtain ⟨r2, h91, h92, h93, h94⟩ := hX5.most
                have hE5 := hX5.ext
                have HX5 := Lib.hid hX5; have HA5 := Lib.hid A5; have HA3' := Lib.hid a3; have HE5 := Lib.hid hE5
                have H81 := Lib.hid h81; have H82 := Lib.hid h82; have H91 := Lib.hid h91; have H92 := Lib.hid h92
                clear hBb A5 Z5 hX5 HX3 HE3 HA3 a3 hE5 h82 h92
                by_cases hO : OkI n (at0 isl) (at0 lo) (at0 hi) (at0 isl i)
                · obtain ⟨rfl, -, xa, hoa, hqa⟩ := HCA.out.resolve_right (fun h => h.2 hO)
                  obtain ⟨rfl, -, xb, hob, hqb⟩ := HCB.out.resolve_right (fun h => h.2 hO)
                  have hsa := HASZ.out (atQ qs) xa _ HSZ.out hoa
                  have hsb := HASZ.out (fun i => -(atQ qs i)) xb _ (fun i hi => by rw [rsz_neg]; exact HSZ.out i hi) hob
                  have hn1 := HU1.out.next HSN.out hoa
                  have hn2 := HU2.out.next HSN.out hob
                  have hqa' := hqa.ext ((x3.trans x4).trans x5)
                  have hqb' := hqb.ext x5
                  generalize msum (atQ qs) xa (fun j => at0 isl j == at0 isl i) n = qa at *
                  generalize msum (fun i => -(atQ qs i)) xb (fun j => at0 isl j == at0 isl i) n = qb at *
                  have hpz : rsz (p - qb) ≤ 1 + (i + 1) * 40000 := by
                    rw [Rat.sub_eq_add_neg]
                    have := rsz_add p (-qb); rw [rsz_neg] at this; rw [Nat.succ_mul]; omega
                  have hqz : rsz (q + qa) ≤ 1 + (i + 1) * 40000 := by
                    have := rsz_add q qa; rw [Nat.succ_mul]; omega
                  have hlim : 1 + i * 40000 ≤ 2000000 := by have := Nat.mul_le_mul_right 40000 (show i ≤ 32 by omega); omega
                  rw [show -p + qb = -(p - qb) from by grind] at hn2
                  have hokn : ∀ j, j < i + 1 → OkI n (at0 isl) (at0 lo) (at0 hi) (at0 isl j) := fun j hj => by
                    by_cases hji : j = i
                    · subst hji; exact hO
                    · exact HOK.out j (by omega)
                  have HN1 := Lib.hid hn1; have HN2 := Lib.hid hn2; have HQA := Lib.hid hqa'; have HQB := Lib.hid hqb'; have HPZ := Lib.hid hpz; have HQZ := Lib.hid hqz; have HOKN := Lib.hid hokn
                  have hKS : ∀ V, Ext W5 V → V.cell? ⟨Ba, 0, none⟩ = some (.bool ra.s) ∧ V.cell? ⟨Ba, 1, none⟩ = some (.slice ra.a ra.k ra.c) ∧ V.cell? ⟨Ba, 2, none⟩ = some (.slice ra.b ra.j ra.d) ∧ V.cell? ⟨Bb, 0, none⟩ = some (.bool rb.s) ∧ V.cell? ⟨Bb, 1, none⟩ = some (.slice rb.a rb.k rb.c) ∧ V.cell? ⟨Bb, 2, none⟩ = some (.slice rb.b rb.j rb.d) := fun V hV => by
                    obtain ⟨a0, a1, a2, -, -, -⟩ := box3 HA3'.out hV
                    obtain ⟨b0, b1, b2, -, -, -⟩ := box3 HA5.out hV
                    exact ⟨a0, a1, a2, b0, b1, b2⟩
                  have hKR : ∀ V, Ext W5 V → V.cell? ⟨w.heap.size, 0, none⟩ = some (.bool r1.s) ∧ V.cell? ⟨w.heap.size, 1, none⟩ = some (.slice r1.a r1.k r1.c) ∧ V.cell? ⟨w.heap.size, 2, none⟩ = some (.slice r1.b r1.j r1.d) ∧ V.frozen? ⟨w.heap.size, 0, none⟩ = false ∧ V.frozen? ⟨w.heap.size, 1, none⟩ = false ∧ V.frozen? ⟨w.heap.size, 2, none⟩ = false := fun V hV => box3 H81.out hV
                  have HKS := Lib.hid hKS; have HKR := Lib.hid hKR
                  have y0 : Ext W5 W5.drew := (Ext.refl _).drew
                  clear hn1 hn2 hqa hqb hqa' hqb' hpz hqz hokn hKS hKR h81 h91 HCA HCB hO hoa hob
                  go_wp2_with fail
                  refine wp_region_Y (fun w' => w'.cell? ⟨Ba, 0, none⟩ = some (.bool ra.s) ∧ w'.cell? ⟨Ba, 1, none⟩ = some (.slice ra.a ra.k ra.c) ∧ w'.cell? ⟨Ba, 2, none⟩ = some (.slice ra.b ra.j ra.d) ∧ w'.cell? ⟨Bb, 0, none⟩ = some (.bool rb.s) ∧ w'.cell? ⟨Bb, 1, none⟩ = some (.slice rb.a rb.k rb.c) ∧ w'.cell? ⟨Bb, 2, none⟩ = some (.slice rb.b rb.j rb.d)) (fun w' => w'.cell? ⟨w.heap.size, 0, none⟩ = some (.bool r1.s) ∧ w'.cell? ⟨w.heap.size, 1, none⟩ = some (.slice r1.a r1.k r1.c) ∧ w'.cell? ⟨w.heap.size, 2, none⟩ = some (.slice r1.b r1.j r1.d) ∧ w'.frozen? ⟨w.heap.size, 0, none⟩ = false ∧ w'.frozen? ⟨w.heap.size, 1, none⟩ = false ∧ w'.frozen? ⟨w.heap.size, 2, none⟩ = false) (fun i => i == 7) (by kernel_rfl) (HKS.out _ y0) (HKR.out _ y0) (fun hHeld hFirst => ?_)
                  refine wpAnyY_take (i := 1) (v := .agg #[.bool ra.s, .slice ra.a ra.k ra.c, .slice ra.b ra.j ra.d]) rfl (by kernel_rfl) (by kernel_rfl) (by kernel_rfl) (by kernel_rfl) (fun _ _ _ h => h) (Or.inl ⟨by rfl, fun w hSw => by (obtain ⟨e0, e1, e2, e3, e4, e5⟩ := hSw; go_simp)⟩) hHeld (Or.inl hFirst) ?_
                  try simp only [List.getElem_toArray, List.getElem_cons_succ, List.getElem_cons_zero, Act.put, List.setIfInBounds_toArray, List.set_cons_zero, List.set_cons_succ]
                  refine wpAnyY_take (i := 4) (v := .agg #[.bool rb.s, .slice rb.a rb.k rb.c, .slice rb.b rb.j rb.d]) rfl (by kernel_rfl) (by kernel_rfl) (by kernel_rfl) (by kernel_rfl) (fun _ _ _ h => h) (Or.inl ⟨by rfl, fun w hSw => by (obtain ⟨e0, e1, e2, e3, e4, e5⟩ := hSw; go_simp)⟩) hHeld (Or.inl hFirst) ?_
                  try simp only [List.getElem_toArray, List.getElem_cons_succ, List.getElem_cons_zero, Act.put, List.setIfInBounds_toArray, List.set_cons_zero, List.set_cons_succ]
                  refine wpAnyY_takeR (i := 3) (v := .agg #[.bool r1.s, .slice r1.a r1.k r1.c, .slice r1.b r1.j r1.d]) rfl (by kernel_rfl) (by kernel_rfl) (by kernel_rfl) (by kernel_rfl) (by kernel_rfl) (by kernel_rfl) (fun _ _ _ h => h) (Or.inl ⟨by rfl, fun w hSw => by (obtain ⟨hSw, hSr⟩ := hSw; obtain ⟨e0, e1, e2, e3, e4, e5⟩ := hSw; obtain ⟨d0, d1, d2, d3, d4, d5⟩ := hSr; go_simp)⟩) hHeld hFirst ?_
                  try simp only [List.getElem_toArray, List.getElem_cons_succ, List.getElem_cons_zero, Act.put, List.setIfInBounds_toArray, List.set_cons_zero, List.set_cons_succ]
                  obtain ⟨g0, g1, g2, g3, g4, g5⟩ := box3 H91.out y0
                  refine wpAnyY_ready (rs := [0]) (by kernel_rfl) (by simp) ?_
                  refine AllReadyY.cons rfl (fun Kc hK => ?_) AllReadyY.nil
                  go_simp
                  
                  refine hK.out _ _ (HKS.out _ y0) (HKR.out _ y0) (fun hHeld hFirst => ?_)
                  clear hK Kc
                  try simp only [List.getElem_toArray, List.getElem_cons_zero, Act.put, List.setIfInBounds_toArray, List.set_cons_zero, List.set_cons_succ]
                  clear g0 g1 g2 g3 g4 g5
                  clear x2 x3 x4 x5
                  refine wpAnyY_ready (rs := [2]) (by kernel_rfl) (by simp) ?_
                  refine AllReadyY.cons rfl (fun Kc hK => ?_) AllReadyY.nil
                  go_simp
                  refine (r3_AddI _ r2 q _ (H92.out.ext y0) (by omega) (by omega) ra _ _ (HQA.out.ext y0) (by omega)).mono ?_
                  intro e z1 hN
                  obtain ⟨q1, rfl, hq1, x1⟩ := hN.isCan
                  clear hN
                  have y1 := y0.trans x1
                  refine hK.out _ _ (HKS.out _ y1) (HKR.out _ y1) (fun hHeld hFirst => ?_)
                  clear hK Kc
                  try simp only [List.getElem_toArray, List.getElem_cons_succ, List.getElem_cons_zero, Act.put, List.setIfInBounds_toArray, List.set_cons_zero, List.set_cons_succ]
                  refine wpAnyY_ready (rs := [5]) (by kernel_rfl) (by simp) ?_
                  refine AllReadyY.cons rfl (fun Kc hK => ?_) AllReadyY.nil
                  go_simp
                  refine (r3_SubI _ r1 p _ (H82.out.ext y1) (by omega) (by omega) rb _ _ (HQB.out.ext y1) (by omega)).mono ?_
                  intro e z2 hN
                  obtain ⟨q2, rfl, hq2, x2⟩ := hN.isCan
                  clear hN
                  have y2 := y1.trans x2
                  refine hK.out _ _ (HKS.out _ y2) (HKR.out _ y2) (fun hHeld hFirst => ?_)
                  clear hK Kc
                  try simp only [List.getElem_toArray, List.getElem_cons_succ, List.getElem_cons_zero, Act.put, List.setIfInBounds_toArray, List.set_cons_zero, List.set_cons_succ]
                  obtain ⟨g0, g1, g2, g3, g4, g5⟩ := box3 H91.out y2
                  obtain ⟨e0, e1, e2, e3, e4, e5⟩ := HKS.out _ y2
                  obtain ⟨d0, d1, d2, d3, d4, d5⟩ := HKR.out _ y2
                  have HV6 : Hid ((putBox z2 (w.heap.size + 1) q1).cell? ⟨Ba, 0, none⟩ = some (.bool ra.s) ∧ (putBox z2 (w.heap.size + 1) q1).cell? ⟨Ba, 1, none⟩ = some (.slice ra.a ra.k ra.c) ∧ (putBox z2 (w.heap.size + 1) q1).cell? ⟨Ba, 2, none⟩ = some (.slice ra.b ra.j ra.d) ∧ (putBox z2 (w.heap.size + 1) q1).cell? ⟨Bb, 0, none⟩ = some (.bool rb.s) ∧ (putBox z2 (w.heap.size + 1) q1).cell? ⟨Bb, 1, none⟩ = some (.slice rb.a rb.k rb.c) ∧ (putBox z2 (w.heap.size + 1) q1).cell? ⟨Bb, 2, none⟩ = some (.slice rb.b rb.j rb.d)) := ⟨cell_put3 e0 (by simp only; omega) q1, cell_put3 e1 (by simp only; omega) q1, cell_put3 e2 (by simp only; omega) q1, cell_put3 e3 (by simp only; omega) q1, cell_put3 e4 (by simp only; omega) q1, cell_put3 e5 (by simp only; omega) q1⟩
                  have HR6 : Hid ((putBox z2 (w.heap.size + 1) q1).cell? ⟨w.heap.size, 0, none⟩ = some (.bool r1.s) ∧ (putBox z2 (w.heap.size + 1) q1).cell? ⟨w.heap.size, 1, none⟩ = some (.slice r1.a r1.k r1.c) ∧ (putBox z2 (w.heap.size + 1) q1).cell? ⟨w.heap.size, 2, none⟩ = some (.slice r1.b r1.j r1.d) ∧ (putBox z2 (w.heap.size + 1) q1).frozen? ⟨w.heap.size, 0, none⟩ = false ∧ (putBox z2 (w.heap.size + 1) q1).frozen? ⟨w.heap.size, 1, none⟩ = false ∧ (putBox z2 (w.heap.size + 1) q1).frozen? ⟨w.heap.size, 2, none⟩ = false) := ⟨cell_put3 d0 (by simp only; omega) q1, cell_put3 d1 (by simp only; omega) q1, cell_put3 d2 (by simp only; omega) q1, froz_put3.trans d3, froz_put3.trans d4, froz_put3.trans d5⟩
                  clear e0 e1 e2 e3 e4 e5 d0 d1 d2 d3 d4 d5
                  refine wpAnyY_ready (rs := [6]) (by kernel_rfl) (by simp) ?_
                  refine AllReadyY.cons rfl (fun Kc hK => ?_) AllReadyY.nil
                  go_simp
                  
                  refine hK.out _ _ (HV6.out) (HR6.out) (fun hHeld hFirst => ?_)
                  clear hK Kc
                  try simp only [List.getElem_toArray, List.getElem_cons_succ, List.getElem_cons_zero, Act.put]
                  clear g0 g1 g2 g3 g4 g5
                  obtain ⟨d0, d1, d2, d3, d4, d5⟩ := HR6.out
                  obtain ⟨e0, e1, e2, e3, e4, e5⟩ := HV6.out
                  have HV7 : Hid ((putBox (putBox z2 (w.heap.size + 1) q1) w.heap.size q2).cell? ⟨Ba, 0, none⟩ = some (.bool ra.s) ∧ (putBox (putBox z2 (w.heap.size + 1) q1) w.heap.size q2).cell? ⟨Ba, 1, none⟩ = some (.slice ra.a ra.k ra.c) ∧ (putBox (putBox z2 (w.heap.size + 1) q1) w.heap.size q2).cell? ⟨Ba, 2, none⟩ = some (.slice ra.b ra.j ra.d) ∧ (putBox (putBox z2 (w.heap.size + 1) q1) w.heap.size q2).cell? ⟨Bb, 0, none⟩ = some (.bool rb.s) ∧ (putBox (putBox z2 (w.heap.size + 1) q1) w.heap.size q2).cell? ⟨Bb, 1, none⟩ = some (.slice rb.a rb.k rb.c) ∧ (putBox (putBox z2 (w.heap.size + 1) q1) w.heap.size q2).cell? ⟨Bb, 2, none⟩ = some (.slice rb.b rb.j rb.d)) := ⟨cell_put3 e0 (by simp only; omega) q2, cell_put3 e1 (by simp only; omega) q2, cell_put3 e2 (by simp only; omega) q2, cell_put3 e3 (by simp only; omega) q2, cell_put3 e4 (by simp only; omega) q2, cell_put3 e5 (by simp only; omega) q2⟩
                  clear e0 e1 e2 e3 e4 e5
                  unfold putBox at d0 d1 d2 d3 d4 d5
                  refine wpAnyY_ready (rs := [7]) (by kernel_rfl) (by simp) ?_
                  refine AllReadyY.late rfl (by kernel_rfl) (fun Kc hK => ?_) AllReadyY.nil
                  go_simp
                  refine hK.out _ _ (HV7.out) (fun hHeld => ?_)
                  clear hK Kc
                  try simp only [List.getElem_toArray, List.getElem_cons_succ, List.getElem_cons_zero, Act.put]
                  refine wpAnyY_done (by kernel_rfl) ?_ _
                  clear hHeld d0 d1 d2 d3 d4 d5 HV6 HR6 HV7
                  have hnx : Hid (UpAt w n (atQ qs) (at0 isl) (at0 lo) (at0 hi) am cm rm (negQ qs) (i + 1) (p - qb) (q + qa) (putBox (putBox z2 (w.heap.size + 1) q1) w.heap.size q2)) :=
                    ⟨HOKN.out, HN1.out, HN2.out, HPZ.out, HQZ.out, (HX5.out.ext' y2).put HFM.out hq2 (hq1.ext x2) HPZ.out HQZ.out⟩
                  go_wp2_with fail
                  exact ⟨⟨i + 1, p - qb, q + qa, by omega, hnx.out, by go_num⟩, by simp only [intOf]; omega⟩
                · obtain ⟨rfl, -⟩ := HCA.out.resolve_left (fun h => hO h.2.1)
                  obtain ⟨p0, p1, p2, p3, p4, p5⟩ := box3 h81 (Ext.refl _)
                  obtain ⟨q0, q1, q2, q3, q4, q5⟩ := box3 h91 (Ext.refl _)
                  have HNO := Lib.hid hO
                  clear HCB HCA hO h81 h91
                  go_wp2_with fail
                  refine bodyPost_ret (v := .tuple #[.agg #[.bool false, .slice none 0 0, .slice none 0 0], .agg #[.bool false, .slice none 0 0, .slice none 0 0], .bool false]) (by simp [results, Tryz.results26, go_sem, p0, p1, p2, q0, q1, q2]) rfl ⟨Ext.set3' (Ext.set3' HE5.out (by omega)) (by omega), ⟨false, none, 0, 0, none, 0, 0⟩, ⟨false, none, 0, 0, none, 0, 0⟩, false, 0, 0, rfl, isRat_zero _ _, isRat_zero _ _, ⟨Nat.zero_le _, Nat.zero_le _⟩, ⟨Nat.zero_le _, Nat.zero_le _⟩, Or.inr ⟨rfl, rfl, rfl, fun h => HNO.out (h _ ⟨i, hlt, rfl⟩)⟩⟩
        · obtain rfl : n = i := by omega
          obtain ⟨r1, h81, h82, h83, h84⟩ := hX.least
          obtain ⟨r2, h91, h92, h93, h94⟩ := hX.most
          have hE := hX.ext
          have hlim : 1 + n * 40000 ≤ 2000000 := by have := Nat.mul_le_mul_right 40000 hn; omega
          have hb1 := hup1.best; have hb2 := hup2.best
          have hall : ∀ k, keyP (at0 isl) n k → OkI n (at0 isl) (at0 lo) (at0 hi) k := fun k ⟨j, hj, e⟩ => e ▸ hok j hj
          have D1' : Arr (putBox wr w.heap.size r1) w.heap.size 55 r1.cells := h81.put3 r1
          have D2' : Arr (putBox wr w.heap.size r1) (w.heap.size + 1) 55 r2.cells := h91.put3o (by omega) r1
          have F1' : Arr (putBox (putBox wr w.heap.size r1) (w.heap.size + 1) r2) w.heap.size 55 r1.cells := D1'.put3o (by omega) r2
          have F2' : Arr (putBox (putBox wr w.heap.size r1) (w.heap.size + 1) r2) (w.heap.size + 1) 55 r2.cells := D2'.put3 r2
          have hfin1 : IsRat (putBox (putBox wr w.heap.size r1) (w.heap.size + 1) r2) r1 p 2000000 := ((h82.mono hlim).put3 h81 r1).put3 D2' r2
          have hfin2 : IsRat (putBox (putBox wr w.heap.size r1) (w.heap.size + 1) r2) r2 q 2000000 := ((h92.mono hlim).put3 h81 r1).put3 D2' r2
          have hfinE : Ext w (putBox (putBox wr w.heap.size r1) (w.heap.size + 1) r2) := Ext.put3 (Ext.put3 hE (Nat.le_refl _) r1) (by omega) r2
          have HFIN1 := Lib.hid hfin1; have HFIN2 := Lib.hid hfin2; have HFINE := Lib.hid hfinE
          have D1 : Hid (Arr (putBox wr w.heap.size r1).drew w.heap.size 55 r1.cells) := D1'.ext (Ext.refl _).drew
          have D2 : Hid (Arr (putBox wr w.heap.size r1).drew (w.heap.size + 1) 55 r2.cells) := D2'.ext (Ext.refl _).drew
          have F1 : Hid (Arr (putBox (putBox wr w.heap.size r1) (w.heap.size + 1) r2).drew w.heap.size 55 r1.cells) := F1'.ext (Ext.refl _).drew
          have F2 : Hid (Arr (putBox (putBox wr w.heap.size r1) (w.heap.size + 1) r2).drew (w.heap.size + 1) 55 r2.cells) := F2'.ext (Ext.refl _).drew
          have hKK : ∀ V, Arr V w.heap.size 55 r1.cells → Arr V (w.heap.size + 1) 55 r2.cells → V.cell? ⟨w.heap.size, 0, none⟩ = some (.bool r1.s) ∧ V.cell? ⟨w.heap.size, 1, none⟩ = some (.slice r1.a r1.k r1.c) ∧ V.cell? ⟨w.heap.size, 2, none⟩ = some (.slice r1.b r1.j r1.d) ∧ V.frozen? ⟨w.heap.size, 0, none⟩ = false ∧ V.frozen? ⟨w.heap.size, 1, none⟩ = false ∧ V.frozen? ⟨w.heap.size, 2, none⟩ = false ∧ V.cell? ⟨w.heap.size + 1, 0, none⟩ = some (.bool r2.s) ∧ V.cell? ⟨w.heap.size + 1, 1, none⟩ = some (.slice r2.a r2.k r2.c) ∧ V.cell? ⟨w.heap.size + 1, 2, none⟩ = some (.slice r2.b r2.j r2.d) ∧ V.frozen? ⟨w.heap.size + 1, 0, none⟩ = false ∧ V.frozen? ⟨w.heap.size + 1, 1, none⟩ = false ∧ V.frozen? ⟨w.heap.size + 1, 2, none⟩ = false := fun V h1 h2 => by
            obtain ⟨a0, a1, a2, a3, a4, a5⟩ := box3 h1 (Ext.refl _)
            obtain ⟨b0, b1, b2, b3, b4, b5⟩ := box3 h2 (Ext.refl _)
            exact ⟨a0, a1, a2, a3, a4, a5, b0, b1, b2, b3, b4, b5⟩
          have HD1 := Lib.hid D1'; have HD2 := Lib.hid D2'
          have HKK := Lib.hid hKK; have H81 := Lib.hid h81; have H91 := Lib.hid h91; have HB1 := Lib.hid hb1; have HB2 := Lib.hid hb2; have HALL := Lib.hid hall
          clear hfin1 hfin2 hfinE D1' D2' F1' F2' hKK h81 h82 h91 h92 hX hup1 hup2 hok hall hb1 hb2 hE
          go_wp2_with fail
          refine wp_region_Y (fun w' => w'.cell? ⟨w.heap.size, 0, none⟩ = some (.bool r1.s) ∧ w'.cell? ⟨w.heap.size, 1, none⟩ = some (.slice r1.a r1.k r1.c) ∧ w'.cell? ⟨w.heap.size, 2, none⟩ = some (.slice r1.b r1.j r1.d) ∧ w'.frozen? ⟨w.heap.size, 0, none⟩ = false ∧ w'.frozen? ⟨w.heap.size, 1, none⟩ = false ∧ w'.frozen? ⟨w.heap.size, 2, none⟩ = false ∧ w'.cell? ⟨w.heap.size + 1, 0, none⟩ = some (.bool r2.s) ∧ w'.cell? ⟨w.heap.size + 1, 1, none⟩ = some (.slice r2.a r2.k r2.c) ∧ w'.cell? ⟨w.heap.size + 1, 2, none⟩ = some (.slice r2.b r2.j r2.d) ∧ w'.frozen? ⟨w.heap.size + 1, 0, none⟩ = false ∧ w'.frozen? ⟨w.heap.size + 1, 1, none⟩ = false ∧ w'.frozen? ⟨w.heap.size + 1, 2, none⟩ = false) (fun w' => True) (fun i => false) (by kernel_rfl) (HKK.out _ (by exact H81.out) (by exact H91.out)) (trivial) (fun hHeld hFirst => ?_)
          refine wpAnyY_take (i := 0) (v := .agg #[.bool r1.s, .slice r1.a r1.k r1.c, .slice r1.b r1.j r1.d]) rfl (by kernel_rfl) (by kernel_rfl) (by kernel_rfl) (by kernel_rfl) (fun _ _ _ h => h) (Or.inl ⟨by rfl, fun w hSw => by (obtain ⟨e0, e1, e2, e3, e4, e5, e6, e7, e8, e9, e10, e11⟩ := hSw; go_simp)⟩) hHeld (Or.inl hFirst) ?_
          try simp only [List.getElem_toArray, List.getElem_cons_zero, Act.put, List.setIfInBounds_toArray, List.set_cons_zero, List.set_cons_succ]
          refine wpAnyY_take (i := 1) (v := .agg #[.bool r2.s, .slice r2.a r2.k r2.c, .slice r2.b r2.j r2.d]) rfl (by kernel_rfl) (by kernel_rfl) (by kernel_rfl) (by kernel_rfl) (fun _ _ _ h => h) (Or.inl ⟨by rfl, fun w hSw => by (obtain ⟨e0, e1, e2, e3, e4, e5, e6, e7, e8, e9, e10, e11⟩ := hSw; go_simp)⟩) hHeld (Or.inl hFirst) ?_
          try simp only [List.getElem_toArray, List.getElem_cons_succ, List.getElem_cons_zero, Act.put, List.setIfInBounds_toArray, List.set_cons_zero, List.set_cons_succ]
          obtain ⟨e0, e1, e2, e3, e4, e5, e6, e7, e8, e9, e10, e11⟩ := HKK.out wr.drew (by exact H81.out) (by exact H91.out)
          obtain ⟨f0, f1, f2, f3, f4, f5, f6, f7, f8, f9, f10, f11⟩ := HKK.out wr H81.out H91.out
          refine wpAnyY_ready (rs := [2]) (by kernel_rfl) (by simp) ?_
          refine AllReadyY.cons rfl (fun Kc hK => ?_) AllReadyY.nil
          go_simp
          
          refine hK.out _ _ (HKK.out _ D1.out D2.out) (trivial) (fun hHeld hFirst => ?_)
          clear hK Kc
          try simp only [List.getElem_toArray, List.getElem_cons_succ, List.getElem_cons_zero, Act.put]
          clear e0 e1 e2 e3 e4 e5 e6 e7 e8 e9 e10 e11 f0 f1 f2 f3 f4 f5 f6 f7 f8 f9 f10 f11
          obtain ⟨e0, e1, e2, e3, e4, e5, e6, e7, e8, e9, e10, e11⟩ := HKK.out _ D1.out D2.out
          obtain ⟨f0, f1, f2, f3, f4, f5, f6, f7, f8, f9, f10, f11⟩ := HKK.out _ HD1.out HD2.out
          unfold putBox at e0 e1 e2 e3 e4 e5 e6 e7 e8 e9 e10 e11 f0 f1 f2 f3 f4 f5 f6 f7 f8 f9 f10 f11
          refine wpAnyY_ready (rs := [3]) (by kernel_rfl) (by simp) ?_
          refine AllReadyY.cons rfl (fun Kc hK => ?_) AllReadyY.nil
          go_simp
          
          refine hK.out _ _ (HKK.out _ F1.out F2.out) (trivial) (fun hHeld hFirst => ?_)
          clear hK Kc
          try simp only [List.getElem_toArray, List.getElem_cons_succ, List.getElem_cons_zero, Act.put]
          clear e0 e1 e2 e3 e4 e5 e6 e7 e8 e9 e10 e11 f0 f1 f2 f3 f4 f5 f6 f7 f8 f9 f10 f11
          refine wpAnyY_take (i := 4) (v := .bool true) rfl (by kernel_rfl) (by kernel_rfl) (by kernel_rfl) (by kernel_rfl) (fun _ _ _ h => h) (Or.inl ⟨by rfl, fun w hSw => by (obtain ⟨e0, e1, e2, e3, e4, e5, e6, e7, e8, e9, e10, e11⟩ := hSw; go_simp)⟩) hHeld (Or.inl hFirst) ?_
          try simp only [List.getElem_toArray, List.getElem_cons_succ, List.getElem_cons_zero, Act.put, List.setIfInBounds_toArray, List.set_cons_zero, List.set_cons_succ]
          refine wpAnyY_done (by kernel_rfl) ?_ _
          clear hHeld hFirst
          obtain ⟨e0, e1, e2, e3, e4, e5, e6, e7, e8, e9, e10, e11⟩ := HKK.out _ F1.out F2.out
          unfold putBox at e0 e1 e2 e6 e7 e8
          go_wp2_with fail
          refine bodyPost_ret (v := .tuple #[.agg #[.bool r1.s, .slice r1.a r1.k r1.c, .slice r1.b r1.j r1.d], .agg #[.bool r2.s, .slice r2.a r2.k r2.c, .slice r2.b r2.j r2.d], .bool true]) (by simp [results, Tryz.results26, go_sem, e0, e1, e2, e6, e7, e8]) rfl ⟨HFINE.out.drew, r1, r2, true, p, q, rfl, HFIN1.out.ext (Ext.refl _).drew, HFIN2.out.ext (Ext.refl _).drew, ⟨by omega, by omega⟩, ⟨by omega, by omega⟩, Or.inl ⟨rfl, HALL.out, HB2.out, HB1.out⟩⟩

end Go.Proofs.YtgihpfkjpfanmaaGreat
