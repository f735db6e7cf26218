/- Texts of the proof: Rb1, Rb2, Rb3, Rb4. -/
import Derived.Test.YtgihpfkjpfanmaaGreatGT
import Derived.Test.YtgihpfkjpfanmaaGreatGN
import Derived.Deep.Slices
/- A slice of rational numbers that came in. -/
namespace Go.Proofs.YtgihpfkjpfanmaaGreat
open Go.ChangeShapes Go.WideShapes Go.ChangeAt Go.RowKit Go.Deep

/-- The limbs of a number that came in: as Limbs, of any length. -/
def RawIn (w : World) (a : Option Addr) (k c : Nat) : Prop := k ≤ c ∧ c ≤ 9223372036854775807 ∧ (k ≤ 1000 → ∃ n, Raw w a k c n)

/-- A slice of rational numbers that came in. -/
structure RatsIn (w : World) (a : Option Addr) (c : Nat) (rs : List RVal) : Prop where
  le : rs.length ≤ c
  cap : c ≤ 9223372036854775807
  nul : a = none → c = 0
  cell : ∀ i (h : i < rs.length), ∃ b o, a = some ⟨b, o, none⟩ ∧ w.cell? ⟨b, o + i * 3, none⟩ = some (.bool rs[i].s) ∧ w.cell? ⟨b, o + i * 3 + 1, none⟩ = some (.slice rs[i].a rs[i].k rs[i].c) ∧ w.cell? ⟨b, o + i * 3 + 2, none⟩ = some (.slice rs[i].b rs[i].j rs[i].d)
  num : ∀ i (h : i < rs.length), RawIn w rs[i].a rs[i].k rs[i].c ∧ RawIn w rs[i].b rs[i].j rs[i].d

theorem three_of {l : List Value} (h : l.length = 3) : ∃ a b c, l = [a, b, c] := by
  match l, h with
  | [a, b, c], _ => exact ⟨a, b, c, rfl⟩

section
variable {H : Type} {enc : TypeId × Value → H} {w : World} {base : Nat} {spare : Nat → Bool} {held : Bool}

theorem wf_u32 {n : Int} (h : (Lit.int .u32 n).wf = true) : 0 ≤ n ∧ n < 4294967296 := by
  simp [Lit.wf, IntKind.min, IntKind.max, IntKind.signed, IntKind.bits] at h
  omega

theorem open_raw {fuel : Nat} {v : Value} {x : DataW H × List MemPlace} (h : DataW.trod enc Tryz.prog w base spare held fuel 51 [v] = some x) : ∃ a k c, v = .slice a k c ∧ RawIn w a k c := by
  rcases open_ints Tryz.underlying51 Tryz.underlying122 (by kernel_rfl) h with ⟨hcs, _⟩ | ⟨a, len, cap, zs, hcs, _, hl, hm, hz, _, hcell, hwf⟩
  · simp only [List.cons.injEq, and_true] at hcs
    exact ⟨none, 0, 0, hcs, Nat.le_refl _, by omega, fun _ => ⟨0, Raw.nil w⟩⟩
  · simp only [List.cons.injEq, and_true] at hcs
    refine ⟨some a, len, cap, hcs, hl, by unfold maxLen at hm; omega, fun hk => ?_⟩
    have hlz : len ≤ zs.length := by rw [hz]; split <;> omega
    refine ⟨val ((zs.take len).map Int.toNat), (zs.take len).map Int.toNat, by simp; omega, rfl, by simp; omega, by unfold maxLen at hm; omega, by simp; omega, (fun e => by cases e), ?_, ?_⟩
    · intro n hn
      obtain ⟨z, hz', rfl⟩ := List.mem_map.1 hn
      have := wf_u32 (hwf z (List.mem_of_mem_take hz'))
      omega
    · intro i hi
      have hi' : i < len := by simp at hi; omega
      have hc := hcell i (by omega)
      obtain ⟨b, off, spot⟩ := a
      have hspot : spot = none := by simpa [Addr.add] using World.cell?_spot (hcell 0 (by omega))
      subst hspot
      refine ⟨b, off, rfl, ?_⟩
      rw [show (Addr.add ⟨b, off, none⟩ i) = ⟨b, off + i, none⟩ from by unfold Addr.add; split <;> simp_all] at hc
      rw [hc]
      have hiz : i < zs.length := by omega
      have hw := wf_u32 (hwf zs[i] (List.getElem_mem hiz))
      have e1 : zs.getD i 0 = zs[i] := by simp [hiz]
      have e2 : limb ((zs.take len).map Int.toNat) i = zs[i].toNat := by
        unfold limb
        rw [List.getElem?_eq_getElem (by rw [List.length_map, List.length_take]; omega), Option.getD_some, List.getElem_map, List.getElem_take]
      rw [e1, e2, Int.toNat_of_nonneg hw.1]

theorem open_rat {fuel : Nat} {cs : List Value} {x : DataW H × List MemPlace} (h : DataW.trod enc Tryz.prog w base spare held fuel 55 cs = some x) : ∃ r : RVal, cs = r.cells ∧ RawIn w r.a r.k r.c ∧ RawIn w r.b r.j r.d := by
  obtain ⟨xs, n, _, _, hlen, hxl, hf⟩ := DataW.trod_struct Tryz.underlying55 h
  rw [show Tryz.prog.cellsOf 55 = 3 from by kernel_rfl] at hlen
  obtain ⟨c0, c1, c2, rfl⟩ := three_of hlen
  have k53 : Tryz.prog.cellsOf 53 = 2 := by kernel_rfl
  have k51 : Tryz.prog.cellsOf 51 = 1 := by kernel_rfl
  have h0 : DataW.trod enc Tryz.prog w base spare held n 53 (([c0, c1, c2].drop 0).take (Tryz.prog.cellsOf 53)) = xs[0]? := hf 0 _ rfl
  have h1 : DataW.trod enc Tryz.prog w base spare held n 51 (([c0, c1, c2].drop 2).take (Tryz.prog.cellsOf 51)) = xs[1]? := hf 1 _ rfl
  have hx2 : xs.length = 2 := hxl
  rw [k53, List.getElem?_eq_getElem (by omega)] at h0
  rw [k51, List.getElem?_eq_getElem (by omega)] at h1
  obtain ⟨b, j, d, hb, hr⟩ := open_raw (show DataW.trod enc Tryz.prog w base spare held n 51 [c2] = some xs[1] from h1)
  obtain ⟨ys, m, _, _, hlen', hyl, hg⟩ := DataW.trod_struct Tryz.underlying53 (show DataW.trod enc Tryz.prog w base spare held n 53 [c0, c1] = some xs[0] from h0)
  have k4 : Tryz.prog.cellsOf 4 = 1 := by kernel_rfl
  have g0 : DataW.trod enc Tryz.prog w base spare held m 4 (([c0, c1].drop 0).take (Tryz.prog.cellsOf 4)) = ys[0]? := hg 0 _ rfl
  have g1 : DataW.trod enc Tryz.prog w base spare held m 51 (([c0, c1].drop 1).take (Tryz.prog.cellsOf 51)) = ys[1]? := hg 1 _ rfl
  have hy2 : ys.length = 2 := hyl
  rw [k4, List.getElem?_eq_getElem (by omega)] at g0
  rw [k51, List.getElem?_eq_getElem (by omega)] at g1
  obtain ⟨s, hs, _⟩ := DataW.trod_bool Tryz.underlying4 (show DataW.trod enc Tryz.prog w base spare held m 4 [c0] = some ys[0] from g0)
  obtain ⟨a, k, c, ha, hr'⟩ := open_raw (show DataW.trod enc Tryz.prog w base spare held m 51 [c1] = some ys[1] from g1)
  simp only [List.cons.injEq, and_true] at hs
  subst hs ha hb
  exact ⟨⟨s, a, k, c, b, j, d⟩, rfl, hr', hr⟩

theorem open_rats {fuel : Nat} {v : Value} {x : DataW H × List MemPlace} (h : DataW.trod enc Tryz.prog w base spare held fuel 48 [v] = some x) : ∃ a c rs, v = .slice a rs.length c ∧ RatsIn w a c rs := by
  rcases open_slice Tryz.underlying48 h with ⟨hcs, _⟩ | ⟨a, len, cap, m, n, D, Pl, hcs, hb, hl, hm, hmm, hx, hi⟩
  · simp only [List.cons.injEq, and_true] at hcs
    exact ⟨none, 0, [], hcs, Nat.le_refl _, by omega, fun _ => rfl, fun i hi => absurd hi (Nat.not_lt_zero _), fun i hi => absurd hi (Nat.not_lt_zero _)⟩
  · simp only [List.cons.injEq, and_true] at hcs
    have hlm : len ≤ m := by rw [hmm]; split <;> omega
    have hC : Tryz.prog.cellsOf 55 = 3 := by kernel_rfl
    have hex : ∀ i, ∃ r : RVal, i < len → w.cells? base (a.add (i * 3)) 3 = some r.cells ∧ RawIn w r.a r.k r.c ∧ RawIn w r.b r.j r.d := by
      intro i
      by_cases hil : i < len
      · obtain ⟨cs', h1, h2⟩ := hi i (by omega)
        rw [hC] at h1
        obtain ⟨r, rfl, h3, h4⟩ := open_rat h2
        exact ⟨r, fun _ => ⟨h1, h3, h4⟩⟩
      · exact ⟨⟨false, none, 0, 0, none, 0, 0⟩, fun hh => absurd hh hil⟩
    obtain ⟨R, hR⟩ := Classical.axiomOfChoice hex
    refine ⟨some a, cap, (List.range len).map R, by rw [hcs]; simp, by simp; exact hl, by unfold maxLen at hm; omega, (fun e => by cases e), ?_, ?_⟩
    · intro i hi'
      have hil : i < len := by simpa using hi'
      obtain ⟨h1, -, -⟩ := hR i hil
      obtain ⟨_, hcl, hat⟩ := World.cells?_some h1
      obtain ⟨b, off, spot⟩ := a
      have hspot : spot = none := by
        obtain ⟨h0, -, -⟩ := hR 0 (by omega)
        obtain ⟨_, _, hat0⟩ := World.cells?_some h0
        have := hat0 0 (by omega)
        simp [RVal.cells, Addr.add] at this
        exact World.cell?_spot this
      subst hspot
      have hg : (((List.range len).map R)[i]'hi') = R i := by simp
      rw [hg]
      have hadd : ∀ j, Addr.add (Addr.add ⟨b, off, none⟩ (i * 3)) j = ⟨b, off + i * 3 + j, none⟩ := by
        intro j; unfold Addr.add; split <;> split <;> simp_all
      refine ⟨b, off, rfl, ?_, ?_, ?_⟩
      · have := hat 0 (by omega); rw [hadd] at this; simpa [RVal.cells] using this
      · have := hat 1 (by omega); rw [hadd] at this; simpa [RVal.cells] using this
      · have := hat 2 (by omega); rw [hadd] at this; simpa [RVal.cells] using this
    · intro i hi'
      have hil : i < len := by simpa using hi'
      obtain ⟨-, h2, h3⟩ := hR i hil
      have hg : (((List.range len).map R)[i]'hi') = R i := by simp
      rw [hg]
      exact ⟨h2, h3⟩
end

end Go.Proofs.YtgihpfkjpfanmaaGreat

/- gridmarketstage.Raw. -/
namespace Go.Proofs.YtgihpfkjpfanmaaGreat
open Go.RowKit

theorem RatsIn.at {w : World} {a : Option Addr} {c : Nat} {rs : List RVal} (h : RatsIn w a c rs) (h0 : 0 < rs.length) : ∃ b o, a = some ⟨b, o, none⟩ := by
  obtain ⟨b, o, ha, _⟩ := h.cell 0 h0; exact ⟨b, o, ha⟩

/-- Short numbers. -/
def IsRaw (rs : List RVal) : Prop := rs.length ≤ 30 ∧ ∀ i (hi : i < rs.length), rs[i].k ≤ 4 ∧ rs[i].j ≤ 4

set_option maxRecDepth 100000 in
theorem stage_Raw_yes (w : World) (a : Option Addr) (c : Nat) (rs : List RVal) (h : RatsIn w a c rs) (hr : IsRaw rs) :
    Calls Tryz.prog 23 #[.slice a rs.length c] w fun e w' => e = .returned (.bool true) ∧ w = w' := by
  obtain ⟨h30, hr⟩ := hr
  have HR := Lib.hid hr
  clear hr
  go_enter Tryz.func23, Tryz.ntmps23
  go_wp2_with fail
  go_loop [3] (fun ii => ∃ j : Nat, j ≤ rs.length ∧ ii = .int .i64 j) (fun ii => rs.length - (intOf ii).toNat)
  case atStart => exact ⟨0, Nat.zero_le _, rfl⟩
  case round =>
    obtain ⟨j, hj, rfl⟩ := hrel
    by_cases hlt : j < rs.length
    · obtain ⟨b, o, rfl⟩ := h.at (by omega)
      obtain ⟨b', o', e', c0, c1, c2⟩ := h.cell j hlt
      cases e'
      obtain ⟨r1, r2⟩ := HR.out j hlt
      generalize rs[j] = y at *
      have t1 : decide ((4 : Int) < (y.k : Int)) = false := by simp; omega
      have t2 : decide ((4 : Int) < (y.j : Int)) = false := by simp; omega
      go_wp2_with fail
      go_round
      case rel => exact ⟨j + 1, by omega, by go_num⟩
      case measure => simp [intOf] <;> omega
    · obtain rfl : j = rs.length := by omega
      go_wp2_with fail
      go_ret
      exact ⟨rfl, rfl⟩

set_option maxRecDepth 100000 in
theorem stage_Raw_no (w : World) (a : Option Addr) (c : Nat) (rs : List RVal) (h : RatsIn w a c rs) (hr : ¬ IsRaw rs) :
    Calls Tryz.prog 23 #[.slice a rs.length c] w fun e w' => e = .returned (.bool false) ∧ w = w' := by
  have hle := h.le
  have hcap := h.cap
  by_cases h30 : 30 < rs.length
  · go_enter Tryz.func23, Tryz.ntmps23
    go_wp2_with fail
    go_ret
    exact ⟨rfl, rfl⟩
  · have hb : ∃ i, ∃ hi : i < rs.length, ¬ (rs[i].k ≤ 4 ∧ rs[i].j ≤ 4) := by
      apply Classical.byContradiction
      intro hc
      refine hr ⟨by omega, fun i hi => Classical.byContradiction (fun hh => hc ⟨i, hi, hh⟩)⟩
    obtain ⟨jb, hjb, hbad⟩ := hb
    have HB := Lib.hid hbad
    clear hbad hr
    go_enter Tryz.func23, Tryz.ntmps23
    go_wp2_with fail
    go_loop [3] (fun ii => ∃ j : Nat, j ≤ jb ∧ ii = .int .i64 j) (fun ii => rs.length - (intOf ii).toNat)
    case atStart => exact ⟨0, Nat.zero_le _, rfl⟩
    case round =>
      obtain ⟨j, hj, rfl⟩ := hrel
      have hlt : j < rs.length := by omega
      obtain ⟨b, o, rfl⟩ := h.at (by omega)
      obtain ⟨b', o', e', c0, c1, c2⟩ := h.cell j hlt
      cases e'
      have hz : (j < jb ∧ rs[j].k ≤ 4 ∧ rs[j].j ≤ 4) ∨ 4 < rs[j].k ∨ (rs[j].k ≤ 4 ∧ 4 < rs[j].j) := by
        by_cases e1 : rs[j].k ≤ 4
        · by_cases e2 : rs[j].j ≤ 4
          · refine Or.inl ⟨?_, e1, e2⟩
            rcases Nat.lt_or_ge j jb with h5 | h5
            · exact h5
            · obtain rfl : j = jb := by omega
              exact absurd ⟨e1, e2⟩ HB.out
          · exact Or.inr (Or.inr ⟨e1, by omega⟩)
        · exact Or.inr (Or.inl (by omega))
      clear HB
      generalize rs[j] = y at *
      rcases hz with ⟨hjj, z1, z2⟩ | z1 | ⟨z1, z2⟩
      · have t1 : decide ((4 : Int) < (y.k : Int)) = false := by simp; omega
        have t2 : decide ((4 : Int) < (y.j : Int)) = false := by simp; omega
        go_wp2_with fail
        go_round
        case rel => exact ⟨j + 1, by omega, by go_num⟩
        case measure => simp [intOf] <;> omega
      · have t1 : decide ((4 : Int) < (y.k : Int)) = true := by simp; omega
        go_wp2_with fail
        go_ret
        exact ⟨rfl, rfl⟩
      · have t1 : decide ((4 : Int) < (y.k : Int)) = false := by simp; omega
        have t2 : decide ((4 : Int) < (y.j : Int)) = true := by simp; omega
        go_wp2_with fail
        go_ret
        exact ⟨rfl, rfl⟩

/-- Short numbers that came in are numbers. -/
theorem RatsIn.rats {w : World} {a : Option Addr} {c : Nat} {rs : List RVal} (h : RatsIn w a c rs) (hr : IsRaw rs) : ∃ qs, Rats w a c rs qs 4 ∧ RShort rs 4 := by
  have hex : ∀ i, ∃ q : Rat, ∀ hi : i < rs.length, IsRat w rs[i] q 4 := by
    intro i
    by_cases hi : i < rs.length
    · obtain ⟨h1, h2⟩ := h.num i hi
      obtain ⟨r1, r2⟩ := hr.2 i hi
      obtain ⟨n, hn⟩ := h1.2.2 (by omega)
      obtain ⟨m, hm⟩ := h2.2.2 (by omega)
      have l1 := hn.len_le
      have l2 := hm.len_le
      exact ⟨mkRat (sgn rs[i].s n) m, fun _ => ⟨n, m, hn, hm, rfl, by omega, by omega⟩⟩
    · exact ⟨0, fun hh => absurd hh hi⟩
  obtain ⟨Q, hQ⟩ := Classical.axiomOfChoice hex
  refine ⟨(List.range rs.length).map Q, ⟨by simp, h.le, h.cap, by have := hr.1; omega, h.cell, fun i hi => ?_⟩, hr.2⟩
  have hg : (((List.range rs.length).map Q)[i]'(by simpa using hi)) = Q i := by simp
  rw [hg]
  exact hQ i hi

end Go.Proofs.YtgihpfkjpfanmaaGreat

/- SettlementApportions: what the walk wants. -/
namespace Go.Proofs.YtgihpfkjpfanmaaGreat
open Go.RowKit

open Classical in
noncomputable def apN (qs : List Rat) : Nat := if apE qs = 0 then (apOut qs).length else 0

/-- What Apportion returns, in one shape. -/
def ApVal (qs : List Rat) (w : World) (e : Ending) (w' : World) : Prop :=
  ∃ pa pc, e = .returned (.tuple #[.slice pa (apN qs) pc, .int .i64 (apE qs)]) ∧ (apN qs = 0 ∨ (apN qs = (apOut qs).length ∧ IntsAt w' pa (apOut qs))) ∧ Ext w w'
theorem ApRes.val {qs : List Rat} {w w' : World} {e : Ending} (h : ApRes qs w e w') : ApVal qs w e w' := by
  rcases h with ⟨h0, b, he, _, hA, hx⟩ | ⟨h0, he, hx⟩
  · have hn : apN qs = (apOut qs).length := by unfold apN; rw [if_pos h0]
    refine ⟨some ⟨b, 0, none⟩, (apOut qs).length, ?_, Or.inr ⟨hn, arr_ints hA⟩, hx⟩
    rw [he, hn, h0]
  · have hn : apN qs = 0 := by unfold apN; rw [if_neg h0]
    refine ⟨none, 0, ?_, Or.inl hn, hx⟩
    rw [he, hn]
theorem apN_le (qs : List Rat) : apN qs ≤ qs.length := by
  unfold apN; split
  · rw [apOut_length]; exact Nat.le_refl _
  · exact Nat.zero_le _
theorem ints_val (w : World) (a b : Option Addr) (n c c' : Nat) (l : List Int) (hA : n = 0 ∨ (n = l.length ∧ IntsAt w a l)) (hB : n = 0 ∨ (n = l.length ∧ IntsAt w b l)) (hl : n < 1000000) :
    Calls Tryz.prog 36 #[.slice a n c, .slice b n c'] w fun e w' => e = .returned (.bool true) ∧ Ext w w' := by
  by_cases h0 : n = 0
  · subst h0; exact r18_Ints_none w a b c c'
  · obtain ⟨rfl, h1⟩ := hA.resolve_left h0
    obtain ⟨_, h2⟩ := hB.resolve_left h0
    exact r18_Ints_same w a b c c' l h1 h2 hl

theorem ownsRow_base {w : World} {base base' : Nat} {e : TypeId} {s : Nat} {v : Value} {n : Nat} {xs : List Value} (h : w.ownsRow base e s v n xs) (hb : base' ≤ base) : w.ownsRow base' e s v n xs := by
  obtain ⟨h1, h2⟩ := h
  refine ⟨h1, ?_⟩
  rcases h2 with h2 | ⟨g, cap, cur, hv, hb', hg, hr⟩
  · exact .inl h2
  · exact .inr ⟨g, cap, cur, hv, Nat.le_trans hb hb', hg, hr⟩
theorem RatRow.base {w w4 wr : World} {v : Value} {rs : List RVal} {qs : List Rat} {L : Nat} (h : RatRow w4 wr v rs qs L) (hx : Ext w w4) : RatRow w wr v rs qs L :=
  ⟨h.len, ownsRow_base h.own hx.size, h.num, h.off, hx.trans h.ext⟩
theorem RatRow.mono {w wr : World} {v : Value} {rs : List RVal} {qs : List Rat} {L L' : Nat} (h : RatRow w wr v rs qs L) (hl : L ≤ L') : RatRow w wr v rs qs L' :=
  ⟨h.len, h.own, fun k hk => (h.num k hk).mono hl, h.off, h.ext⟩
theorem RShort.mono {rs : List RVal} {L L' : Nat} (h : RShort rs L) (hl : L ≤ L') : RShort rs L' := fun k hk => by have := h k hk; omega

/-- The empty row that a literal makes. -/
theorem ownsRow_literal (w : World) : (w.alloc (.cells #[] 55)).ownsRow w.heap.size 55 3 (.slice (some ⟨w.heap.size, 0, none⟩) 0 0) 0 [] := by
  refine ⟨rfl, .inr ⟨w.heap.size, 0, #[], rfl, Nat.le_refl _, ?_, Nat.le_refl _, Nat.zero_le _, rfl, rfl⟩⟩
  exact Arr.alloc w 55 []

/-- The cells of a slice of numbers, one behind the other. -/
theorem Rats.src {w : World} {a : Option Addr} {c : Nat} {rs : List RVal} {qs : List Rat} {L : Nat} (h : Rats w a c rs qs L) (h0 : 0 < rs.length) : ∃ ad, a = some ad ∧ ∀ j u, (ratCells rs)[j]? = some u → w.cell? (ad.add j) = some u := by
  obtain ⟨b, o, rfl⟩ := h.at h0
  refine ⟨_, rfl, fun j u hu => ?_⟩
  have hj : j < (ratCells rs).length := (List.getElem?_eq_some_iff.1 hu).1
  rw [ratCells_length] at hj
  have hi : j / 3 < rs.length := by omega
  have hk : j % 3 < 3 := by omega
  have hg := ratCells_get rs (j / 3) (j % 3) hi hk
  rw [show j / 3 * 3 + j % 3 = j by omega, hu] at hg
  obtain ⟨b', o', e', c0, c1, c2⟩ := h.cell (j / 3) hi
  cases e'
  rw [show (Addr.add ⟨b, o, none⟩ j) = ⟨b, o + j, none⟩ from by unfold Addr.add; split <;> simp_all]
  rcases (show j % 3 = 0 ∨ j % 3 = 1 ∨ j % 3 = 2 by omega) with e | e | e
  · rw [e] at hg; rw [show o + j = o + j / 3 * 3 by omega, c0]; simpa [RVal.cells] using hg.symm
  · rw [e] at hg; rw [show o + j = o + j / 3 * 3 + 1 by omega, c1]; simpa [RVal.cells] using hg.symm
  · rw [e] at hg; rw [show o + j = o + j / 3 * 3 + 2 by omega, c2]; simpa [RVal.cells] using hg.symm
theorem ratCells_one (l : List RVal) : ∀ u ∈ ratCells l, u.oneCell' = true := by
  intro u hu
  obtain ⟨r, _, hr⟩ := List.mem_flatMap.1 hu
  exact ratVals_one r u hr

/-- The numbers copied into a new row. -/
theorem RatRow.copy {w4 w5 : World} {v1 : Value} {a : Option Addr} {c : Nat} {rs : List RVal} {qs : List Rat} {L : Nat} (h : Rats w4 a c rs qs L) (ho : w5.ownsRow w4.heap.size 55 3 v1 rs.length (ratCells rs)) (hX : Ext w4 w5)
    (hv : v1.ownBlock = some w4.heap.size ∨ ∃ g, v1.ownBlock = some g ∧ w4.heap.size + 1 ≤ g) : RatRow w4 w5 v1 rs qs L := by
  refine ⟨h.len, ho, fun k hk => (h.num k hk).ext hX, fun k hk => ?_, hX⟩
  obtain ⟨n, m, g1, g2, _⟩ := h.num k hk
  have key : ∀ {a : Option Addr} {k c n : Nat}, Raw w4 a k c n → 0 < k → ∀ x, a = some x → some x.block ≠ v1.ownBlock := by
    intro a k c n hr h0 x hx e
    have := hr.lt h0 x hx
    rcases hv with hv | ⟨g, hv, hg⟩
    · rw [hv, Option.some.injEq] at e; omega
    · rw [hv, Option.some.injEq] at e; omega
  exact ⟨key g1, key g2⟩

end Go.Proofs.YtgihpfkjpfanmaaGreat

/- SettlementApportions' walk. -/
namespace Go.Proofs.YtgihpfkjpfanmaaGreat
open Go.RowKit

/-- The list at the head of the first loop. -/
def SaAt (w : World) (j : Nat) (v : Value) (wr : World) : Prop :=
  (j = 0 ∧ ∃ a c rs qs, v = .slice a rs.length c ∧ Rats wr a c rs qs 4 ∧ RShort rs 4 ∧ rs.length ≤ 30 ∧ (a = none → c = 0) ∧ Ext w wr)
  ∨ (j = 1 ∧ ∃ rs qs, RatRow w wr v rs qs 200 ∧ RShort rs 200 ∧ 0 < rs.length ∧ rs.length ≤ 31)
  ∨ (j = 2 ∧ ∃ n xs, wr.ownsRow w.heap.size 55 3 v n xs ∧ 0 < n ∧ n ≤ 32 ∧ Ext w wr)

theorem SaAt.list {w : World} {j : Nat} {v : Value} {wr : World} (h : SaAt w j v wr) (hj : j < 2) : ∃ a c rs qs L, v = .slice a rs.length c ∧ Rats wr a c rs qs L ∧ RShort rs L ∧ L ≤ 200 ∧ rs.length ≤ 30 + j ∧ (a = none → c = 0) ∧ Ext w wr ∧ (j = 0 → L = 4) := by
  rcases h with ⟨rfl, a, c, rs, qs, hv, hR, hS, hl, hn, hx⟩ | ⟨rfl, rs, qs, hR, hS, h0, hl⟩ | ⟨rfl, _⟩
  · exact ⟨a, c, rs, qs, 4, hv, hR, hS, by omega, by omega, hn, hx, fun _ => rfl⟩
  · obtain ⟨a, c, hv, hr⟩ := hR.rats (by omega)
    refine ⟨a, c, rs, qs, 200, hv, hr, hS, by omega, by omega, ?_, hR.ext, by omega⟩
    intro e
    obtain ⟨b, o, ha⟩ := hr.at h0
    rw [ha] at e; cases e
  · omega

theorem SaAt.next {w w4 w8 : World} {j : Nat} {v2 : Value} {rs : List RVal} {qs : List Rat} {L : Nat} {r : RVal} (hj : j < 2) (hx : Ext w w4) (hn : rs.length ≤ 30 + j) (hL : L ≤ 200) (hj0 : j = 0 → L = 4) (hS : RShort rs L) (hq : ∀ k (hk : k < qs.length), rsz qs[k] ≤ max L 1) (hql : qs.length = rs.length)
    (hrow : RatRow w4 w8 v2 (rs ++ [r]) (qs ++ [-(qsum qs)]) (max L (rsz (-(qsum qs))))) (hr : r.k ≤ rsz (-(qsum qs)) ∧ r.j ≤ rsz (-(qsum qs))) : SaAt w (j + 1) v2 w8 := by
  have hb := hrow.base hx
  rcases (show j = 0 ∨ j = 1 by omega) with rfl | rfl
  · refine Or.inr (Or.inl ⟨rfl, rs ++ [r], _, hb.mono ?_, ?_, by simp, by simp; omega⟩)
    · have h5 := rsz_qsum qs (L + 1) (fun k hk => by have := hq k hk; omega) qs.length (Nat.le_refl _)
      rw [List.take_length, hql] at h5
      rw [rsz_neg]
      obtain rfl := hj0 rfl
      have := Nat.mul_le_mul_right (4 + 1 + 1) hn
      omega
    · have h5 := rsz_qsum qs (L + 1) (fun k hk => by have := hq k hk; omega) qs.length (Nat.le_refl _)
      rw [List.take_length, hql] at h5
      rw [rsz_neg] at hr
      obtain rfl := hj0 rfl
      have := Nat.mul_le_mul_right (4 + 1 + 1) hn
      exact (hS.mono (by omega)).snoc (by omega) (by omega)
  · refine Or.inr (Or.inr ⟨rfl, _, _, hb.own, by simp, by simp; omega, hb.ext⟩)

/-- The length of a slice. -/
def lenOf' : Value → Nat
  | .slice _ n _ => n
  | _ => 0

theorem ownsRow_len {w : World} {base : Nat} {e : TypeId} {s : Nat} {v : Value} {n : Nat} {xs : List Value} (h : w.ownsRow base e s v n xs) : lenOf' v = n := by
  rcases h.2 with ⟨rfl, rfl⟩ | ⟨g, cap, cur, rfl, _⟩ <;> rfl
theorem ownsRow_slice {w : World} {base : Nat} {e : TypeId} {s : Nat} {v : Value} {n : Nat} {xs : List Value} (h : w.ownsRow base e s v n xs) : ∃ a cap, v = .slice a n cap ∧ cap ≤ maxLen := by
  rcases h.2 with ⟨rfl, rfl⟩ | ⟨g, cap, cur, rfl, _, _, _, hc, _⟩
  · exact ⟨none, 0, rfl, Nat.zero_le _⟩
  · exact ⟨_, _, rfl, hc⟩

set_option maxHeartbeats 4000000 in
set_option maxRecDepth 100000 in
theorem law40_apportions (w : World) (a0 : Option Addr) (c0 : Nat) (rs0 : List RVal) (big : Bool) (h : RatsIn w a0 c0 rs0) (hr : IsRaw rs0) :
    Calls Tryz.prog 7 #[.slice a0 rs0.length c0, .bool big] w fun e w' => e = .returned (.bool true) ∧ Ext w w' := by
  obtain ⟨qs0, hR0, hS0⟩ := h.rats hr
  have SI : Hid (SaAt w 0 (.slice a0 rs0.length c0) w) := Or.inl ⟨rfl, a0, c0, rs0, qs0, rfl, hR0, hS0, hr.1, h.nul, Ext.refl _⟩
  have HRaw := Lib.hid (stage_Raw_yes w a0 c0 rs0 h hr)
  clear hR0 hS0 h hr
  go_enter Tryz.func7, Tryz.ntmps7
  go_wp2_with fail
  refine HRaw.out.mono ?_
  rintro e w' ⟨rfl, rfl⟩
  go_wp2_with fail
  go_loopw [0, 5] (fun v i wr => ∃ j : Nat, j ≤ 2 ∧ SaAt w j v wr ∧ i = .int .i64 j) (fun _ i _ => 2 - (intOf i).toNat)
  case atStart => exact ⟨0, by omega, SI.out, rfl⟩
  case round =>
    obtain ⟨j, hj, hAt, rfl⟩ := hrel
    by_cases hlt : j < 2
    · obtain ⟨a, c, rs, qs, L, rfl, hR, hS, hL, hn, hnul, hx, hj0⟩ := hAt.list hlt
      have hle := hR.le
      have hcap := hR.cap
      have hA : ∀ V, Ext wr V → Calls Tryz.prog 33 #[.slice a rs.length c] V (fun e w' => ∃ pa pc, e = .returned (.tuple #[.slice pa (apN qs) pc, .int .i64 (apE qs)]) ∧ (apN qs = 0 ∨ (apN qs = (apOut qs).length ∧ IntsAt w' pa (apOut qs))) ∧ Ext V w') := fun V hV => (ap_all V a c L rs qs (hR.ext hV) (by omega)).mono (fun _ _ hh => ApRes.val hh)
      have hB : ∀ V, Ext wr V → Calls Tryz.prog 34 #[.slice a rs.length c] V (fun e w' => ∃ pa pc, e = .returned (.tuple #[.slice pa (apN qs) pc, .int .i64 (apE qs)]) ∧ (apN qs = 0 ∨ (apN qs = (apOut qs).length ∧ IntsAt w' pa (apOut qs))) ∧ Ext V w') := fun V hV => (r40_all V a c L rs qs (hR.ext hV) (by omega) (hS.mono (by omega))).mono (fun _ _ hh => ApRes.val hh)
      have hI := fun V pa pc pa' pc' h1 h2 => ints_val V pa pa' (apN qs) pc pc' (apOut qs) h1 h2 (by have := apN_le qs; have := hR.len; omega)
      have hSum := fun V (hV : Ext wr V) => r3_Sum V a c rs qs L (hR.ext hV) (by have := Nat.mul_le_mul hn (show L + 2 ≤ 202 by omega); omega) (fun i hi => by have := hS i hi; omega)
      have hszq : rsz (qsum qs) ≤ 100000 := by
        have h5 := rsz_qsum qs (L + 1) (fun k hk => by have := (hR.num k (by rw [← hR.len]; exact hk)).rsz; omega) qs.length (Nat.le_refl _)
        rw [List.take_length, hR.len] at h5
        have := Nat.mul_le_mul hn (show L + 1 + 1 ≤ 202 by omega)
        omega
      have hNeg : ∀ V (r : RVal) (B : Nat), IsCan V r (qsum qs) B → Calls Tryz.prog 37 #[.agg #[.bool r.s, .slice r.a r.k r.c, .slice r.b r.j r.d]] V (NewRat (-(qsum qs)) V) := by
        intro V r B hr
        have hs := hr.short hszq
        have h5 := r3_Neg V r.s _ _ _ _ _ _ _ _ hr.num hr.den (by omega) (by omega)
        rw [hr.s, sgn_num, Rat.mkRat_self] at h5
        rw [hr.s]
        exact h5
      have hNX := fun (w4 w8 : World) (v2 : Value) (r : RVal) (hx : Ext w w4) => SaAt.next (w8 := w8) (v2 := v2) (r := r) hlt hx hn hL hj0 hS (fun k hk => (hR.num k (by rw [← hR.len]; exact hk)).rsz) hR.len
      have HNX := Lib.hid hNX
      have hNl := apN_le qs
      generalize apE qs = E at hA hB
      generalize apN qs = N at hA hB hI hNl
      generalize apOut qs = out at hA hB hI
      have HA := Lib.hid hA; have HB := Lib.hid hB; have HI := Lib.hid hI; have HSum := Lib.hid hSum; have HNeg := Lib.hid hNeg; have HR := Lib.hid hR; have HX := Lib.hid hx; have HNUL := Lib.hid hnul
      have hql := hR.len
      have HQL := Lib.hid hql
      have hzn : rsz (-(qsum qs)) = rsz (qsum qs) := rsz_neg _
      have HZN := Lib.hid hzn
      have hsx := hx.size
      clear hA hB hI hSum hNeg hNX hx hj0 hAt hnul hql hzn hNl hR
      go_wp2_with fail
      refine (HA.out _ (Ext.refl _)).mono ?_
      rintro e w1 ⟨pa, pc, rfl, hi1, x1⟩
      go_wp2_with fail
      refine (HB.out _ x1).mono ?_
      rintro e w2 ⟨pb, pd, rfl, hi2, x2⟩
      go_wp2_with fail
      refine (law40_awake _).mono ?_
      rintro e w3 ⟨rfl, x3⟩
      have hi1' : N = 0 ∨ (N = out.length ∧ IntsAt w3 pa out) := hi1.imp id (fun hh => ⟨hh.1, hh.2.ext (x2.trans x3)⟩)
      have hi2' : N = 0 ∨ (N = out.length ∧ IntsAt w3 pb out) := hi2.imp id (fun hh => ⟨hh.1, hh.2.ext x3⟩)
      have HI1 := Lib.hid hi1'; have HI2 := Lib.hid hi2'
      clear hi1 hi2 hi1' hi2'
      go_wp2_with fail
      refine (HI.out _ _ _ _ _ HI1.out HI2.out).mono ?_
      rintro e w4 ⟨rfl, x4⟩
      have X4 : Ext wr w4 := ((x1.trans x2).trans x3).trans x4
      have HX4 := Lib.hid X4
      have sx4 := X4.size
      clear x1 x2 x3 x4 HI1 HI2 X4
      go_upto_region 10 with fail
      have hR4 := HR.out.ext HX4.out
      have xa4 : Ext w4 (w4.alloc (.cells #[] 55)) := (Ext.refl _).alloc _
      have HR4 := Lib.hid hR4
      have hrl : rs.length ≤ 31 := by omega
      clear hR4
      go_wp2_with (at_builtin; refine wpList_append_at _ rfl (.tmp 42) (.tmp 43) 48 rfl w4.heap.size 55 (.agg zero3.toArray) 3 56 Tryz.underlying48 Tryz.info_rat rfl (by decide) (.slice (some ⟨w4.heap.size, 0, none⟩) 0 0) 0 [] rfl ?c1 a rs.length c (ratCells rs) rfl ?c2 ?c3 ?c4 ?c5 ?c6 (by decide) ?c7 ?_; rotate_right; intro v1 w5 ho he hb hz hv)
      case c1 => exact ownsRow_literal w4
      case c2 => exact ratCells_length rs
      case c3 =>
        intro h0
        obtain ⟨ad, ha, hh⟩ := HR4.out.src h0
        exact ⟨ad, ha, fun j u hu => cell_ext xa4 (hh j u hu)⟩
      case c4 => exact ratCells_one rs
      case c5 =>
        intro e
        have := HNUL.out e
        omega
      case c6 => omega
      case c7 => simp
      have x5 : Ext w4 w5 := he.out w4 xa4 (Nat.le_refl _)
      have ho' := ho.out
      rw [Nat.zero_add, List.nil_append] at ho'
      have hrow := RatRow.copy HR4.out ho' x5 (hv.out.imp id (fun ⟨g, h1, h2⟩ => ⟨g, h1, by simpa using h2⟩))
      have HX5 := Lib.hid x5
      have HROW := Lib.hid hrow
      have sx5 := x5.size
      clear ho he hb hz hv ho' hrow x5 xa4
      refine (HSum.out _ (HX4.out.trans HX5.out)).mono ?_
      intro e w6 hN
      obtain ⟨r6, rfl, hr6, x6⟩ := hN.isCan
      clear hN
      go_wp2_with fail
      refine (HNeg.out _ _ _ hr6).mono ?_
      intro e w7 hN
      obtain ⟨r7, rfl, hr7, x7⟩ := hN.isCan
      clear hN
      have hrow7 := (HROW.out.extend (x6.trans x7)).mono (Nat.le_max_left L (rsz (-(qsum qs))))
      have hOff : Off r7 v1.ownBlock := off_fresh (HROW.out.extend x6).own hr7.fa hr7.fb
      have hRat := hr7.isRat.mono (Nat.le_max_right L (rsz (-(qsum qs))))
      have hks := hr7.short (Nat.le_refl _)
      have sx7 := (x6.trans x7).size
      have HROW7 := Lib.hid hrow7
      have HRAT := Lib.hid hRat
      have HOFF := Lib.hid hOff
      have HKS := Lib.hid hks
      clear hrow7 hRat hOff hks hr6 hr7 x6 x7 HROW
      go_wp2_with (at_builtin; refine wpList_append_at _ rfl (.tmp 44) (.tmp 48) 48 rfl w4.heap.size 55 (.agg zero3.toArray) 3 56 Tryz.underlying48 Tryz.info_rat rfl (by decide) v1 rs.length (ratCells rs) rfl ?d1 _ 1 1 r7.cells rfl rfl ?d2 ?d3 ?d4 ?d5 (by decide) ?d6 ?_; rotate_right; intro v2 w8 ho he hb hz hv)
      case d1 => exact ownsRow_ext HROW7.out.own ((Ext.refl _).alloc _)
      case d2 =>
        intro _
        refine ⟨_, rfl, ?_⟩
        exact cells_new w7 55 r7.cells
      case d3 => exact ratVals_one r7
      case d4 => intro e; cases e
      case d5 => omega
      case d6 => simp; omega
      have xa : Ext w7 (w7.alloc (.cells #[.bool r7.s, .slice r7.a r7.k r7.c, .slice r7.b r7.j r7.d] 55)) := (Ext.refl _).alloc _
      have hn8 := (HROW7.out.extend xa).snoc (HRAT.out.ext xa) HOFF.out ho.out (he.out w4 (HROW7.out.ext.trans xa) (Nat.le_refl _)) hb.out hv.out
      have hnx := HNX.out w4 w8 v2 r7 (HX.out.trans HX4.out) hn8 HKS.out
      exact ⟨⟨j + 1, by omega, hnx, by go_num⟩, by simp only [intOf]; omega⟩
    · obtain rfl : j = 2 := by omega
      rw [show ((2 : Nat) : Int) = 2 from rfl]
      obtain ⟨n, xs, hown, h0, hn, hx⟩ : ∃ n xs, wr.ownsRow w.heap.size 55 3 u0 n xs ∧ 0 < n ∧ n ≤ 32 ∧ Ext w wr := by
        rcases hAt with ⟨h5, _⟩ | ⟨h5, _⟩ | ⟨_, h5⟩
        · omega
        · omega
        · exact h5
      have HO := Lib.hid hown
      clear hAt hown
      cases big with
      | false =>
        go_wp2_with fail
        go_ret
        exact ⟨rfl, hx⟩
      | true =>
        go_wp2_with fail
        go_loopw [0] (fun v wl => ∃ n xs, wl.ownsRow w.heap.size 55 3 v n xs ∧ 0 < n ∧ n ≤ 200 ∧ Ext w wl) (fun v _ => 200 - lenOf' v)
        case atStart => exact ⟨n, xs, HO.out, h0, by omega, hx⟩
        case round =>
          obtain ⟨n, xs, hown, h0, hn, hx⟩ := hrel
          have hlv := ownsRow_len hown
          obtain ⟨p, cap, rfl, hcm⟩ := ownsRow_slice hown
          unfold maxLen at hcm
          have HO := Lib.hid hown
          clear hown
          by_cases h128 : n ≤ 128
          · have t1 : decide ((0 : Int) < (n : Int)) = true := by simp; omega
            have t2 : decide ((n : Int) ≤ 128) = true := by simp; omega
            go_wp2_with fail
            refine (r3_Zero _).mono ?_
            intro e z1 hN
            obtain ⟨r1, rfl, -, y1⟩ := hN.isCan
            clear hN
            go_wp2_with fail
            refine (r3_Zero _).mono ?_
            intro e z2 hN
            obtain ⟨r2, rfl, -, y2⟩ := hN.isCan
            clear hN
            go_wp2_with fail
            refine (r3_Zero _).mono ?_
            intro e z3 hN
            obtain ⟨r3, rfl, -, y3⟩ := hN.isCan
            clear hN
            go_wp2_with fail
            refine (r3_Zero _).mono ?_
            intro e z4 hN
            obtain ⟨r4, rfl, -, y4⟩ := hN.isCan
            clear hN
            go_wp2_with fail
            refine (r3_Zero _).mono ?_
            intro e z5 hN
            obtain ⟨r5, rfl, -, y5⟩ := hN.isCan
            clear hN
            go_wp2_with fail
            refine (r3_Zero _).mono ?_
            intro e z6 hN
            obtain ⟨r6, rfl, -, y6⟩ := hN.isCan
            clear hN
            go_wp2_with fail
            refine (r3_Zero _).mono ?_
            intro e z7 hN
            obtain ⟨r7, rfl, -, y7⟩ := hN.isCan
            clear hN
            go_wp2_with fail
            refine (r3_Zero _).mono ?_
            intro e z8 hN
            obtain ⟨r8, rfl, -, y8⟩ := hN.isCan
            clear hN
            have Y8 : Ext wr z8 := (((((((y1.trans y2).trans y3).trans y4).trans y5).trans y6).trans y7).trans y8)
            have HY8 := Lib.hid Y8
            have HXX := Lib.hid hx
            have sy := Y8.size
            have sw := hx.size
            clear Y8 hx y1 y2 y3 y4 y5 y6 y7 y8
            go_wp2_with (at_builtin; refine wpList_append_at _ rfl (.tmp 60) (.tmp 69) 48 rfl w.heap.size 55 (.agg zero3.toArray) 3 56 Tryz.underlying48 Tryz.info_rat rfl (by decide) _ n xs rfl ?e1 _ 8 8 (ratCells [r1, r2, r3, r4, r5, r6, r7, r8]) rfl rfl ?e2 ?e3 ?e4 ?e5 (by decide) ?e6 ?_; rotate_right; intro v2 w9 ho he hb hz hv)
            case e1 => exact ownsRow_ext (ownsRow_ext HO.out HY8.out) ((Ext.refl _).alloc _)
            case e2 =>
              intro _
              refine ⟨_, rfl, ?_⟩
              exact cells_new z8 55 (ratCells [r1, r2, r3, r4, r5, r6, r7, r8])
            case e3 => exact ratCells_one _
            case e4 => intro e; cases e
            case e5 => omega
            case e6 => simp; omega
            have x9 := he.out w ((HXX.out.trans HY8.out).alloc _) (Nat.le_refl _)
            have hl2 := ownsRow_len ho.out
            have HH := Lib.hid hl2
            have HOO := Lib.hid ho.out
            clear hl2 ho hb hz hv he
            go_roundw
            case rel => exact ⟨n + 8, _, HOO.out, by omega, by omega, x9⟩
            case measure =>
              rw [HH.out]
              simp only [lenOf']
              omega
          · have t1 : decide ((0 : Int) < (n : Int)) = true := by simp; omega
            have t2 : decide ((n : Int) ≤ 128) = false := by simp; omega
            have t3 : ((n : Int) == 0) = false := by simp; omega
            go_wp2_with fail
            refine (ap_long _ _ n _ (by omega) (by omega)).mono ?_
            rintro e w9 ⟨rfl, rfl⟩
            go_wp2_with fail
            go_ret
            exact ⟨rfl, hx⟩

/-- SettlementApportions returns true. -/
theorem law40_SettlementApportions (w : World) (a : Option Addr) (c : Nat) (rs : List RVal) (big : Bool) (h : RatsIn w a c rs) :
    Calls Tryz.prog 7 #[.slice a rs.length c, .bool big] w fun e w' => e = .returned (.bool true) ∧ Ext w w' := by
  by_cases hr : IsRaw rs
  · exact law40_apportions w a c rs big h hr
  · have HRaw := Lib.hid (stage_Raw_no w a c rs h hr)
    clear hr
    go_enter Tryz.func7, Tryz.ntmps7
    go_wp2_with fail
    refine HRaw.out.mono ?_
    rintro e w' ⟨rfl, rfl⟩
    go_wp2_with fail
    go_ret
    exact ⟨rfl, Ext.refl _⟩

end Go.Proofs.YtgihpfkjpfanmaaGreat
