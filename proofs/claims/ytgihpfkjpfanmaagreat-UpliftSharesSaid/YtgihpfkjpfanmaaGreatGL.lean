/- Texts of the proof: Ap1, Sort, Ap2, Ap3, Ap4. -/
import Derived.Test.YtgihpfkjpfanmaaGreatGG
import Derived.Test.YtgihpfkjpfanmaaGreatProg
import Derived.Shelf.SlSortCmp.NoneTotal
import Derived.Test.YtgihpfkjpfanmaaGreatGJ
/- settlement.Apportion: the comparison that it sorts by. -/
namespace Go.Proofs.YtgihpfkjpfanmaaGreat
open Go.RowKit

/-- The first of two numbers that is not 0. -/
def orZ (x y : Int) : Int := if x = 0 then y else x

set_option maxHeartbeats 400000 in
/-- cmp.Or of two integers. -/
theorem cmp_or (w : World) (b : Nat) (x y : Int) (h : Arr w b 3 [.int .i64 x, .int .i64 y]) :
    Calls Tryz.prog 67 #[.slice (some ⟨b, 0, none⟩) 2 2] w fun e w' => e = .returned (.int .i64 (orZ x y)) ∧ Ext w w' := by
  have c0 := h.cell 0
  have c1 := h.cell 1
  simp at c0 c1
  by_cases hx : x = 0
  · subst hx
    by_cases hy : y = 0
    · subst hy
      go_enter Tryz.func67, Tryz.ntmps67
      go_wp2
      refine wp_loop_rounds 3 ?_; rw [rounds_succ]
      go_wp2
      rw [rounds_succ]
      go_wp2
      rw [rounds_succ]
      go_wp2
      go_ret
      exact ⟨rfl, Ext.refl _⟩
    · have hb : (y != 0) = true := by simpa using hy
      go_enter Tryz.func67, Tryz.ntmps67
      go_wp2
      refine wp_loop_rounds 3 ?_; rw [rounds_succ]
      go_wp2
      rw [rounds_succ]
      go_wp2
      go_ret
      exact ⟨rfl, Ext.refl _⟩
  · have hb : (x != 0) = true := by simpa using hx
    go_enter Tryz.func67, Tryz.ntmps67
    go_wp2
    refine wp_loop_rounds 3 ?_; rw [rounds_succ]
    go_wp2
    go_ret
    exact ⟨ret_int (by unfold orZ; rw [if_neg hx]), Ext.refl _⟩

theorem cell_al {w : World} {o : Obj} {p : Addr} {x : Value} (h : w.cell? p = some x) : (w.alloc o).cell? p = some x := cell_ext ((Ext.refl _).alloc _) h

/-- The comparison of two places: the greater part first, then the lesser place. -/
def apCmp (fs : List Rat) (x y : Nat) : Int := orZ (cmpQ (fs[y]?.getD 0) (fs[x]?.getD 0)) (cmpZ (x : Int) (y : Int))

set_option maxHeartbeats 1000000 in
set_option maxRecDepth 100000 in
theorem ap_cmp (w : World) (pb g n L : Nat) (rs : List RVal) (fs : List Rat) (hp : w.cell? ⟨pb, 0, none⟩ = some (.slice (some ⟨g, 0, none⟩) n n)) (hR : Rats w (some ⟨g, 0, none⟩) n rs fs L) (hn : rs.length = n) (hL : L < 100000000) (x y : Nat) (hx : x < n) (hy : y < n) :
    Calls Tryz.prog 86 #[.int .i64 (x : Nat), .int .i64 (y : Nat), .pointer (some ⟨pb, 0, none⟩)] w fun e w' => e = .returned (.int .i64 (apCmp fs x y)) ∧ Ext w w' := by
  have hsh := hR.short
  obtain ⟨b1, o1, e1, xc0, xc1, xc2⟩ := hR.cell x (by omega)
  cases e1
  obtain ⟨b2, o2, e2, yc0, yc1, yc2⟩ := hR.cell y (by omega)
  cases e2
  rw [Nat.zero_add] at xc0 xc1 xc2 yc0 yc1 yc2
  obtain ⟨n1, m1, r1, q1, v1, l1, l2⟩ := hR.num x (by omega)
  obtain ⟨n2, m2, r2, q2, v2, l3, l4⟩ := hR.num y (by omega)
  have hC := fun V (hV : Ext w V) => rat_Compare V rs[y].s _ _ _ _ _ _ _ _ (r2.ext hV) (q2.ext hV) rs[x].s _ _ _ _ _ _ _ _ (r1.ext hV) (q1.ext hV) (by omega) (by omega) (by omega) (by omega)
  have ex : fs[x]?.getD 0 = fs[x]'(by rw [hR.len]; omega) := by rw [List.getElem?_eq_getElem (by rw [hR.len]; omega)]; rfl
  have ey : fs[y]?.getD 0 = fs[y]'(by rw [hR.len]; omega) := by rw [List.getElem?_eq_getElem (by rw [hR.len]; omega)]; rfl
  rw [← v1, ← v2, ← ex, ← ey] at hC
  unfold apCmp
  generalize cmpQ (fs[y]?.getD 0) (fs[x]?.getD 0) = z at hC ⊢
  have HC := Lib.hid hC
  clear hC ex ey v1 v2
  generalize rs[x] = rx at *
  generalize rs[y] = ry at *
  have bx : (x : Int) < (n : Int) := by omega
  have by' : (y : Int) < (n : Int) := by omega
  have cx : (0 : Int) ≤ (x : Int) := by omega
  have cy : (0 : Int) ≤ (y : Int) := by omega
  have hz := block_lt hp
  have hg := block_lt xc0
  simp only at hz hg
  go_enter Tryz.func86, Tryz.ntmps86
  go_wp2_with fail
  go_region_held3 (fun w' => w'.cell? ⟨pb, 0, none⟩ = some (.slice (some ⟨g, 0, none⟩) n n) ∧ w'.cell? ⟨g, x * 3, none⟩ = some (.bool rx.s) ∧ w'.cell? ⟨g, x * 3 + 1, none⟩ = some (.slice rx.a rx.k rx.c) ∧ w'.cell? ⟨g, x * 3 + 2, none⟩ = some (.slice rx.b rx.j rx.d) ∧ w'.cell? ⟨g, y * 3, none⟩ = some (.bool ry.s) ∧ w'.cell? ⟨g, y * 3 + 1, none⟩ = some (.slice ry.a ry.k ry.c) ∧ w'.cell? ⟨g, y * 3 + 2, none⟩ = some (.slice ry.b ry.j ry.d)) (first | exact ⟨hp, xc0, xc1, xc2, yc0, yc1, yc2⟩ | exact ⟨cell_al hp, cell_al xc0, cell_al xc1, cell_al xc2, cell_al yc0, cell_al yc1, cell_al yc2⟩) (first
    | (go_at_call 68; refine (HC.out _ (by exact (Ext.refl _).drew)).mono ?_; rintro e w1 ⟨rfl, x1⟩; have hp := cell_ext ((Ext.refl w).drew.trans x1) hp; have xc0 := cell_ext ((Ext.refl w).drew.trans x1) xc0; have xc1 := cell_ext ((Ext.refl w).drew.trans x1) xc1; have xc2 := cell_ext ((Ext.refl w).drew.trans x1) xc2; have yc0 := cell_ext ((Ext.refl w).drew.trans x1) yc0; have yc1 := cell_ext ((Ext.refl w).drew.trans x1) yc1; have yc2 := cell_ext ((Ext.refl w).drew.trans x1) yc2)
    | (go_at_call 69; refine (cmp_int _ _ _).mono ?_; rintro e w2 ⟨rfl, rfl⟩)
    | (go_at_call 67; refine (cmp_or _ _ _ _ (Arr.alloc w1 3 [.int .i64 z, .int .i64 (cmpZ (x : Int) (y : Int))])).mono ?_; rintro e w3 ⟨rfl, x3⟩; have y3 : Ext w1 w3 := ((Ext.refl w1).alloc _).trans x3; have hp := cell_ext y3 hp; have xc0 := cell_ext y3 xc0; have xc1 := cell_ext y3 xc1; have xc2 := cell_ext y3 xc2; have yc0 := cell_ext y3 yc0; have yc1 := cell_ext y3 yc1; have yc2 := cell_ext y3 yc2))
  all_goals go_wp2_with fail
  all_goals go_ret
  all_goals exact ⟨rfl, ((Ext.refl _).drew.trans x1).trans y3⟩
end Go.Proofs.YtgihpfkjpfanmaaGreat

/- slices.SortFunc at this program: the shelf's laying of its contract, in plain words (written by the kit's command). -/
namespace Go.Proofs
open Go.Shelf
def Tryz.sortL_ren : Go.Shelf.Ren := ⟨fun | 6 => 65 | 15 => 129 | 14 => 128 | 28 => 203 | 29 => 204 | 20 => 195 | 21 => 196 | 22 => 197 | 23 => 198 | 24 => 199 | 25 => 200 | 26 => 201 | 27 => 202 | 46 => 223 | 47 => 224 | 48 => 225 | 49 => 226 | 50 => 227 | 57 => 234 | n => n, fun | 22 => 22 | 24 => 3 | 25 => 46 | 3 => 3 | 39 => 171 | 0 => 0 | 53 => 122 | 55 => 113 | 4 => 4 | 46 => 221 | 45 => 220 | 50 => 71 | 5 => 5 | 9 => 9 | 66 => 234 | 70 => 238 | 76 => 247 | 77 => 248 | n => n, fun | n => n⟩
theorem Tryz.sortL : Go.Proofs.SlLaysF.n6 Tryz.prog Tryz.sortL_ren := {
  mixed := by kernel_rfl,
  f6 := ⟨Tryz.f65.name, by decide, Tryz.func65.trans (congrArg some (by kernel_rfl))⟩,
  f14 := ⟨Tryz.f128.name, by decide, Tryz.func128.trans (congrArg some (by kernel_rfl))⟩,
  f15 := Tryz.func129.trans (congrArg some (by kernel_rfl)),
  f20 := ⟨Tryz.f195.name, by decide, Tryz.func195.trans (congrArg some (by kernel_rfl))⟩,
  f21 := ⟨Tryz.f196.name, by decide, Tryz.func196.trans (congrArg some (by kernel_rfl))⟩,
  f22 := ⟨Tryz.f197.name, by decide, Tryz.func197.trans (congrArg some (by kernel_rfl))⟩,
  f23 := ⟨Tryz.f198.name, by decide, Tryz.func198.trans (congrArg some (by kernel_rfl))⟩,
  f24 := ⟨Tryz.f199.name, by decide, Tryz.func199.trans (congrArg some (by kernel_rfl))⟩,
  f25 := ⟨Tryz.f200.name, by decide, Tryz.func200.trans (congrArg some (by kernel_rfl))⟩,
  f26 := ⟨Tryz.f201.name, by decide, Tryz.func201.trans (congrArg some (by kernel_rfl))⟩,
  f27 := ⟨Tryz.f202.name, by decide, Tryz.func202.trans (congrArg some (by kernel_rfl))⟩,
  f28 := Tryz.func203.trans (congrArg some (by kernel_rfl)),
  f29 := Tryz.func204.trans (congrArg some (by kernel_rfl)),
  f46 := ⟨Tryz.f223.name, by decide, Tryz.func223.trans (congrArg some (by kernel_rfl))⟩,
  f47 := Tryz.func224.trans (congrArg some (by kernel_rfl)),
  f48 := Tryz.func225.trans (congrArg some (by kernel_rfl)),
  f49 := ⟨Tryz.f226.name, by decide, Tryz.func226.trans (congrArg some (by kernel_rfl))⟩,
  f50 := ⟨Tryz.f227.name, by decide, Tryz.func227.trans (congrArg some (by kernel_rfl))⟩,
  f57 := ⟨Tryz.f234.name, by decide, Tryz.func234.trans (congrArg some (by kernel_rfl))⟩,
  t0 := Tryz.underlying0,
  a0 := Tryz.isAgg0,
  z0 := Tryz.sizeOf0,
  v0 := Tryz.zeroValue0,
  t3 := Tryz.underlying3,
  a3 := Tryz.isAgg3,
  z3 := Tryz.sizeOf3,
  v3 := Tryz.zeroValue3,
  t4 := Tryz.underlying4,
  a4 := Tryz.isAgg4,
  z4 := Tryz.sizeOf4,
  v4 := Tryz.zeroValue4,
  t5 := Tryz.underlying5,
  a5 := Tryz.isAgg5,
  z5 := Tryz.sizeOf5,
  v5 := Tryz.zeroValue5,
  t9 := Tryz.underlying9,
  a9 := Tryz.isAgg9,
  z9 := Tryz.sizeOf9,
  v9 := Tryz.zeroValue9,
  t22 := Tryz.underlying22,
  a22 := Tryz.isAgg22,
  z22 := Tryz.sizeOf22,
  v22 := Tryz.zeroValue22,
  a24 := Tryz.isAgg3,
  z24 := Tryz.sizeOf3,
  t25 := Tryz.underlying46,
  a25 := Tryz.isAgg46,
  z25 := Tryz.sizeOf46,
  v25 := Tryz.zeroValue46,
  t39 := Tryz.underlying171,
  a39 := Tryz.isAgg171,
  z39 := Tryz.sizeOf171,
  v39 := Tryz.zeroValue171,
  t45 := Tryz.underlying220,
  a45 := Tryz.isAgg220,
  z45 := Tryz.sizeOf220,
  v45 := Tryz.zeroValue220,
  t46 := Tryz.underlying221,
  a46 := Tryz.isAgg221,
  z46 := Tryz.sizeOf221,
  v46 := Tryz.zeroValue221,
  t50 := Tryz.underlying71,
  a50 := Tryz.isAgg71,
  z50 := Tryz.sizeOf71,
  v50 := Tryz.zeroValue71,
  t53 := Tryz.underlying122,
  a53 := Tryz.isAgg122,
  z53 := Tryz.sizeOf122,
  v53 := Tryz.zeroValue122,
  t55 := Tryz.underlying113,
  a55 := Tryz.isAgg113,
  z55 := Tryz.sizeOf113,
  v55 := Tryz.zeroValue113,
  t66 := Tryz.underlying234,
  a66 := Tryz.isAgg234,
  z66 := Tryz.sizeOf234,
  v66 := Tryz.zeroValue234,
  t70 := Tryz.underlying238,
  a70 := Tryz.isAgg238,
  z70 := Tryz.sizeOf238,
  v70 := Tryz.zeroValue238,
  t76 := Tryz.underlying247,
  a76 := Tryz.isAgg247,
  z76 := Tryz.sizeOf247,
  v76 := Tryz.zeroValue247,
  t77 := Tryz.underlying248,
  a77 := Tryz.isAgg248,
  z77 := Tryz.sizeOf248,
  v77 := Tryz.zeroValue248 }
end Go.Proofs

/- settlement.Apportion: the sorting of the places. -/
namespace Go.Proofs.YtgihpfkjpfanmaaGreat
open Go.RowKit Go.Sort Go.Shelf

/-! ### The order of the places -/

/-- Place x comes before place y. -/
def apLt (fs : List Rat) (x y : Nat) : Prop := fs[y]?.getD 0 < fs[x]?.getD 0 ∨ (fs[y]?.getD 0 = fs[x]?.getD 0 ∧ x < y)

theorem cmpZ_neg_iff {x y : Int} : cmpZ x y < 0 ↔ x < y := by
  unfold cmpZ; split
  · simp [*]
  · split <;> simp [*]

theorem apCmp_lt (fs : List Rat) (x y : Nat) : apCmp fs x y < 0 ↔ apLt fs x y := by
  unfold apCmp orZ apLt
  by_cases h : cmpQ (fs[y]?.getD 0) (fs[x]?.getD 0) = 0
  · rw [if_pos h, cmpZ_neg_iff, cmpQ_eq.1 h]
    constructor
    · intro h1; exact Or.inr ⟨rfl, by omega⟩
    · rintro (h1 | ⟨_, h1⟩)
      · exact absurd h1 Rat.lt_irrefl
      · omega
  · rw [if_neg h, cmpQ_lt]
    constructor
    · exact Or.inl
    · rintro (h1 | ⟨h1, _⟩)
      · exact h1
      · exact absurd (cmpQ_eq.2 h1) h

theorem apLt_irrefl (fs : List Rat) (x : Nat) : ¬ apLt fs x x := by
  rintro (h | ⟨_, h⟩)
  · exact absurd h Rat.lt_irrefl
  · omega
theorem apLt_trans {fs : List Rat} {x y z : Nat} (h1 : apLt fs x y) (h2 : apLt fs y z) : apLt fs x z := by
  unfold apLt at *
  generalize fs[x]?.getD 0 = a at *
  generalize fs[y]?.getD 0 = b at *
  generalize fs[z]?.getD 0 = c at *
  rcases h1 with h1 | ⟨rfl, h1⟩
  · rcases h2 with h2 | ⟨rfl, h2⟩
    · exact Or.inl (by grind)
    · exact Or.inl h1
  · rcases h2 with h2 | ⟨rfl, h2⟩
    · exact Or.inl h2
    · exact Or.inr ⟨rfl, by omega⟩
theorem apLt_total (fs : List Rat) (x y : Nat) (h1 : ¬ apLt fs x y) (h2 : ¬ apLt fs y x) : x = y := by
  unfold apLt at *
  generalize fs[x]?.getD 0 = a at *
  generalize fs[y]?.getD 0 = b at *
  simp only [not_or, not_and, Nat.not_lt] at h1 h2
  have e : a = b := Rat.le_antisymm (Rat.not_lt.1 h1.1) (Rat.not_lt.1 h2.1)
  have i1 := h1.2 e.symm
  have i2 := h2.2 e
  omega
theorem apLt_ntrans {fs : List Rat} {x y z : Nat} (h1 : ¬ apLt fs x y) (h2 : ¬ apLt fs y z) : ¬ apLt fs x z := by
  intro h3
  by_cases e1 : x = y
  · subst e1; exact h2 h3
  · have h4 : apLt fs y x := Classical.byContradiction (fun h => e1 (apLt_total fs x y h1 h))
    exact h2 (apLt_trans h4 h3)

/-! ### What a change of another block leaves -/

/-- w' is as w in the blocks of w but for b. -/
def Agree (b : Nat) (w w' : World) : Prop := ∀ k, k < w.heap.size → k ≠ b → w'.heap[k]? = w.heap[k]?

theorem Agree.cell {b : Nat} {w w' : World} (h : Agree b w w') {p : Addr} {v : Value} (hp : p.block ≠ b) (hc : w.cell? p = some v) : w'.cell? p = some v := by
  have := block_lt hc
  unfold World.cell? at *
  rw [h _ this hp]; exact hc
theorem Agree.raw {b : Nat} {w w' : World} (h : Agree b w w') {a : Option Addr} {k c n : Nat} (hr : Raw w a k c n) (hb : ∀ x, a = some x → x.block ≠ b) : Raw w' a k c n := by
  obtain ⟨l, h1, h2, h3⟩ := hr
  exact ⟨l, h1, h2, h3.le, h3.cap, h3.short, h3.nul, h3.small, fun i hi => by
    obtain ⟨b', o, ha, hc⟩ := h3.cell i hi
    exact ⟨b', o, ha, h.cell (p := ⟨b', o + i, none⟩) (show b' ≠ b from hb ⟨b', o, none⟩ ha) hc⟩⟩
theorem Agree.rats {b : Nat} {w w' : World} (h : Agree b w w') {g c : Nat} {rs : List RVal} {qs : List Rat} {L : Nat} (hr : Rats w (some ⟨g, 0, none⟩) c rs qs L) (hg : g ≠ b)
    (hb : ∀ i (hi : i < rs.length), (∀ x, rs[i].a = some x → x.block ≠ b) ∧ (∀ x, rs[i].b = some x → x.block ≠ b)) : Rats w' (some ⟨g, 0, none⟩) c rs qs L :=
  ⟨hr.len, hr.le, hr.cap, hr.short, fun i hi => by
    obtain ⟨b', o, ha, h0, h1, h2⟩ := hr.cell i hi
    cases ha
    exact ⟨g, 0, rfl, h.cell hg h0, h.cell hg h1, h.cell hg h2⟩, fun i hi => by
    obtain ⟨n, m, h1, h2, h3⟩ := hr.num i hi
    exact ⟨n, m, h.raw h1 (hb i hi).1, h.raw h2 (hb i hi).2, h3⟩⟩

theorem agree_sortWorld {α : Type} [Inhabited α] (enc : α → Value) (w : World) (blk off m : Nat) (d : Array α) (os : Array Obj) : Agree blk w (sortWorld enc w blk off m d os) := by
  intro k hk hne
  unfold sortWorld
  rw [heap_grow_old _ _ (by simpa [Sort.ahead] using hk)]
  unfold putRow mapBlock
  simp [Array.getElem?_modify, Ne.symm hne, Sort.ahead]

/-- The places in order. -/
def apOrder (fs : List Rat) (n : Nat) : List (Fin n) := (List.finRange n).mergeSort (fun x y => !(ltOf (fun a b : Fin n => apCmp fs a b) y x))

/-- The place that comes as number j. -/
def apAt (fs : List Rat) (n j : Nat) : Nat := ((apOrder fs n)[j]?.map (·.val)).getD 0

/-- What the sorting leaves: the places in order, everything else as it was. -/
structure Sorted (fs : List Rat) (n blk : Nat) (w w' : World) : Prop where
  cell : ∀ j, j < n → w'.cell? ⟨blk, j, none⟩ = some (.int .i64 (apAt fs n j : Nat))
  agree : Agree blk w w'
  size : w.heap.size ≤ w'.heap.size
  os : w'.os = w.os
  tape : w'.tape = w.tape
  output : w'.output = w.output
  drawn : w.drawn ≤ w'.drawn

theorem ap_sort (w : World) (pb g blk n L c : Nat) (rs : List RVal) (fs : List Rat) (hp : w.cell? ⟨pb, 0, none⟩ = some (.slice (some ⟨g, 0, none⟩) n n)) (hR : Rats w (some ⟨g, 0, none⟩) n rs fs L) (hn : rs.length = n) (hL : L < 100000000) (h0 : 0 < n) (hn2 : n < 1000000)
    (hpb : pb ≠ blk) (hg : g ≠ blk) (hb : ∀ i (hi : i < rs.length), (∀ x, rs[i].a = some x → x.block ≠ blk) ∧ (∀ x, rs[i].b = some x → x.block ≠ blk))
    (hO : ∀ j, j < n → w.cell? ⟨blk, j, none⟩ = some (.int .i64 (j : Nat)) ∧ w.frozen? ⟨blk, j, none⟩ = false) :
    Calls Tryz.prog 65 #[.slice (some ⟨blk, 0, none⟩) n c, .func (.func 86) #[] #[.pointer (some ⟨pb, 0, none⟩)]] w fun e w' => e = .returned (.tuple #[]) ∧ Sorted fs n blk w w' := by
  obtain ⟨n', rfl⟩ : ∃ n', n = n' + 1 := ⟨n - 1, by omega⟩
  have eg : ∀ args w, (callFunc 86 args).run Tryz.prog w = .ok (.enter 86 args) w := enters_of Tryz.func86 (by kernel_rfl) rfl
  have hsw : SWO (ltOf (fun a b : Fin (n' + 1) => apCmp fs a b)) := by
    have e : ∀ a b : Fin (n' + 1), ltOf (fun a b : Fin (n' + 1) => apCmp fs a b) a b = false ↔ ¬ apLt fs a b := by
      intro a b; unfold ltOf; rw [decide_eq_false_iff_not, apCmp_lt]
    have e' : ∀ a b : Fin (n' + 1), ltOf (fun a b : Fin (n' + 1) => apCmp fs a b) a b = true ↔ apLt fs a b := by
      intro a b; unfold ltOf; rw [decide_eq_true_iff, apCmp_lt]
    refine ⟨fun x => (e x x).2 (apLt_irrefl fs x), fun x y z h1 h2 => (e' x z).2 (apLt_trans ((e' x y).1 h1) ((e' y z).1 h2)), fun x y z h1 h2 => (e x z).2 (apLt_ntrans ((e x y).1 h1) ((e y z).1 h2))⟩
  have htot : ∀ x y : Fin (n' + 1), ltOf (fun a b : Fin (n' + 1) => apCmp fs a b) x y = false → ltOf (fun a b : Fin (n' + 1) => apCmp fs a b) y x = false → x = y := by
    intro x y h1 h2
    unfold ltOf at h1 h2
    rw [decide_eq_false_iff_not, apCmp_lt] at h1 h2
    exact Fin.ext (apLt_total fs x y h1 h2)
  have hsz : (Array.ofFn (fun i : Fin (n' + 1) => i)).size = n' + 1 := by simp
  have hH : Holds (fun i : Fin (n' + 1) => Value.int .i64 (i.val : Nat)) w blk 0 (Array.ofFn (fun i : Fin (n' + 1) => i)) := by
    intro j hj
    rw [hsz] at hj
    rw [Nat.zero_add, getElem!_pos _ j (by rw [hsz]; exact hj)]
    simp only [Array.getElem_ofFn]
    exact hO j hj
  have hblk : blk < w.heap.size := block_lt (p := ⟨blk, 0, none⟩) (hO 0 (by omega)).1
  have hcmp : CmpLays1 Tryz.prog 86 #[.pointer (some ⟨pb, 0, none⟩)] (fun i : Fin (n' + 1) => Value.int .i64 (i.val : Nat)) (fun a b : Fin (n' + 1) => apCmp fs a b) blk 0 (Array.ofFn (fun i : Fin (n' + 1) => i)).size w := by
    intro m os dk _ x y
    have ag := agree_sortWorld (fun i : Fin (n' + 1) => Value.int .i64 (i.val : Nat)) w blk 0 m dk os
    refine (ap_cmp _ pb g (n' + 1) L rs fs (ag.cell hpb hp) (ag.rats hR hg hb) hn hL x y x.2 y.2).mono ?_
    rintro e w' ⟨he, hx⟩
    exact ⟨he, hx.grow⟩
  have hS := Any.slices_SortFunc_total Tryz.sortL (fun i : Fin (n' + 1) => Value.int .i64 (i.val : Nat)) (fun _ => rfl) (fun a b : Fin (n' + 1) => apCmp fs a b) hsw 86 #[.pointer (some ⟨pb, 0, none⟩)] blk 0 c (Array.ofFn (fun i : Fin (n' + 1) => i)) w eg hcmp hH hblk (by rw [hsz]; omega) htot
  rw [hsz] at hS
  change Calls Tryz.prog 65 _ _ _ at hS
  refine hS.mono ?_
  rintro e w' ⟨he, m, os, rfl⟩
  refine ⟨he, ?_⟩
  have hl : (Array.ofFn (fun i : Fin (n' + 1) => i)).toList = List.finRange (n' + 1) := by simp [List.finRange]
  rw [hl]
  have hlen : (apOrder fs (n' + 1)).toArray.size = n' + 1 := by simp [apOrder]
  refine ⟨fun j hj => ?_, agree_sortWorld _ _ _ _ _ _ _, ?_, rfl, rfl, rfl, ?_⟩
  · have hw : SW (fun i : Fin (n' + 1) => Value.int .i64 (i.val : Nat)) w blk 0 (apOrder fs (n' + 1)).toArray (sortWorld (fun i : Fin (n' + 1) => Value.int .i64 (i.val : Nat)) w blk 0 m (apOrder fs (n' + 1)).toArray os) := ⟨m, os, rfl⟩
    have h5 := (hw.holds hblk hH (by rw [hlen, hsz]) j (by rw [hlen]; exact hj)).1
    rw [Nat.zero_add] at h5
    refine h5.trans ?_
    rw [getElem!_pos _ j (by rw [hlen]; exact hj)]
    unfold apAt
    rw [List.getElem?_eq_getElem (by have := hlen; simp at this; omega)]
    rfl
  · show w.heap.size ≤ (sortWorld _ w blk 0 m _ os).heap.size
    unfold sortWorld
    rw [size_grow, size_putRow]; exact Nat.le_add_right _ _
  · show w.drawn ≤ w.drawn + m
    exact Nat.le_add_right _ _
end Go.Proofs.YtgihpfkjpfanmaaGreat

/- settlement.Apportion. -/
namespace Go.Proofs.YtgihpfkjpfanmaaGreat
open Go.RowKit

/-- The greatest amount. -/
def apMost : Rat := ((281474976710656 : Int) : Rat)
def apOk (q : Rat) : Prop := q ≤ apMost ∧ -q ≤ apMost

theorem cmpQ_pos_false {p q : Rat} (h : p ≤ q) : decide ((0 : Int) < cmpQ p q) = false := by
  rw [decide_eq_false_iff_not, cmpQ_gt]; exact Rat.not_lt.2 h
theorem cmpQ_pos_true {p q : Rat} (h : ¬ p ≤ q) : decide ((0 : Int) < cmpQ p q) = true := by
  rw [decide_eq_true_iff, cmpQ_gt]; exact Rat.not_le.1 h

def isum (l : List Int) : Int := l.sum

theorem apOk_floor {q : Rat} (h : apOk q) : -281474976710656 ≤ q.floor ∧ q.floor ≤ 281474976710656 := by
  obtain ⟨h1, h2⟩ := h
  unfold apMost at h1 h2
  constructor
  · rw [Rat.le_floor_iff]
    grind
  · have h3 := Rat.floor_le q
    have h4 : ((q.floor : Int) : Rat) ≤ ((281474976710656 : Int) : Rat) := by grind
    exact Rat.intCast_le_intCast.1 h4

theorem isum_bound (l : List Int) (M : Int) (h : ∀ x ∈ l, -M ≤ x ∧ x ≤ M) : -((l.length : Int) * M) ≤ isum l ∧ isum l ≤ (l.length : Int) * M := by
  unfold isum
  induction l with
  | nil => simp
  | cons x l ih =>
    have h1 := h x (List.mem_cons_self ..)
    have h2 := ih (fun y hy => h y (List.mem_cons_of_mem _ hy))
    simp only [List.sum_cons, List.length_cons, Int.natCast_add, Int.add_mul]
    omega

/-- The cells of the element that is filled next. -/
theorem zero_at {w : World} {b m x : Nat} {T : TypeId} {A : List Value} (h : Arr w b T (A ++ zeros3 (m + 1))) (hA : A.length = x * 3) :
    w.cell? ⟨b, x * 3, none⟩ = some (.bool false) ∧ w.cell? ⟨b, x * 3 + 1, none⟩ = some (.slice none 0 0) ∧ w.cell? ⟨b, x * 3 + 2, none⟩ = some (.slice none 0 0) ∧ w.frozen? ⟨b, x * 3, none⟩ = false ∧ w.frozen? ⟨b, x * 3 + 1, none⟩ = false ∧ w.frozen? ⟨b, x * 3 + 2, none⟩ = false := by
  have e : zeros3 (m + 1) = .bool false :: .slice none 0 0 :: .slice none 0 0 :: zeros3 m := rfl
  rw [e] at h
  refine ⟨?_, ?_, ?_, h.frozen _, h.frozen _, h.frozen _⟩
  · rw [h.cell, List.getElem?_append_right (by omega), hA, Nat.sub_self]; rfl
  · rw [h.cell, List.getElem?_append_right (by omega), hA, Nat.add_sub_cancel_left]; rfl
  · rw [h.cell, List.getElem?_append_right (by omega), hA, Nat.add_sub_cancel_left]; rfl

/-- The fractional parts. -/
def fracs (qs : List Rat) : List Rat := qs.map fun q => q - ((q.floor : Int) : Rat)

/-- The numbers, the first t places in order raised by 1. -/
def apInc (fs : List Rat) (n : Nat) (l : List Int) : Nat → List Int
  | 0 => l
  | t + 1 => (apInc fs n l t).set (apAt fs n t) ((apInc fs n l t)[apAt fs n t]?.getD 0 + 1)
theorem apInc_length (fs : List Rat) (n : Nat) (l : List Int) (t : Nat) : (apInc fs n l t).length = l.length := by
  induction t with
  | zero => rfl
  | succ t ih => unfold apInc; rw [List.length_set]; exact ih
theorem apAt_lt (fs : List Rat) (n j : Nat) (h : j < n) : apAt fs n j < n := by
  unfold apAt
  have hl : j < (apOrder fs n).length := by simpa [apOrder] using h
  rw [List.getElem?_eq_getElem hl]
  exact ((apOrder fs n)[j]).2
theorem apInc_bound (fs : List Rat) (n : Nat) (l : List Int) (t p : Nat) (h : ∀ x ∈ l, -281474976710656 ≤ x ∧ x ≤ 281474976710656) : -281474976710656 ≤ (apInc fs n l t)[p]?.getD 0 ∧ (apInc fs n l t)[p]?.getD 0 ≤ 281474976710656 + t := by
  induction t generalizing p with
  | zero =>
    unfold apInc
    by_cases hp : p < l.length
    · rw [List.getElem?_eq_getElem hp]
      have := h _ (List.getElem_mem hp)
      simp only [Option.getD_some]; omega
    · rw [List.getElem?_eq_none (by omega)]; simp
  | succ t ih =>
    unfold apInc
    rw [List.getElem?_set]
    split
    · split
      · have := ih (apAt fs n t); simp only [Option.getD_some]; omega
      · simp; omega
    · have := ih p; omega

/-- The state at the head of the second loop. -/
def ApAt (w : World) (qs : List Rat) (n bw bg pb bo BB : Nat) (_F : Int) (i : Nat) (wr : World) : Prop :=
  ∃ prs : List RVal, prs.length = i ∧ i ≤ n ∧ Arr wr bw 3 (i64s ((qs.map Rat.floor).take i ++ List.replicate (n - i) 0)) ∧ Arr wr bg 55 (ratCells prs ++ zeros3 (n - i)) ∧ Arr wr pb 48 [.slice (some ⟨bg, 0, none⟩) n n] ∧
    Arr wr bo 3 (i64s ((List.range i).map (fun k : Nat => (k : Int)) ++ List.replicate (n - i) 0)) ∧ (∀ k (hk : k < prs.length), IsCan wr prs[k] (qs[k]?.getD 0 - (((qs[k]?.getD 0).floor : Int) : Rat)) BB) ∧ Ext w wr ∧ BB ≤ wr.heap.size

/-- A call returns a new list of integers and OK. -/
def ApGood (l : List Int) (w : World) (e : Ending) (w' : World) : Prop := ∃ b, e = .returned (.tuple #[.slice (some ⟨b, 0, none⟩) l.length l.length, .int .i64 0]) ∧ w.heap.size ≤ b ∧ Arr w' b 3 (i64s l) ∧ Ext w w'

theorem ap_long (w : World) (a : Option Addr) (k c : Nat) (hk : 128 < k) (hs : k ≤ 1099511627776) :
    Calls Tryz.prog 33 #[.slice a k c] w fun e w' => e = .returned (.tuple #[.slice none 0 0, .int .i64 8]) ∧ w = w' := by
  go_enter Tryz.func33, Tryz.ntmps33
  go_wp2_with fail
  go_ret2
  exact ⟨rfl, rfl⟩

set_option maxHeartbeats 4000000 in
set_option maxRecDepth 100000 in
theorem ap_good (w : World) (a : Option Addr) (c L : Nat) (rs : List RVal) (qs : List Rat) (h : Rats w a c rs qs L) (hn : rs.length ≤ 128) (hL : L < 100000) (hall : ∀ i (hi : i < rs.length), apOk (qs[i]'(by rw [h.len]; exact hi)))
    (hF1 : -72057594037927936 ≤ (qsum qs).floor) (hF2 : (qsum qs).floor ≤ 72057594037927936) (hint : qsum qs = (((qsum qs).floor : Int) : Rat)) (h0n : 0 < rs.length) (hm0 : isum (qs.map Rat.floor) ≤ (qsum qs).floor) (hm1 : (qsum qs).floor ≤ isum (qs.map Rat.floor) + rs.length) (hszS : rsz (qsum qs) < 100000000) :
    Calls Tryz.prog 33 #[.slice a rs.length c] w (ApGood (apInc (fracs qs) rs.length (qs.map Rat.floor) ((qsum qs).floor - isum (qs.map Rat.floor)).toNat) w) := by
  obtain ⟨out, hout⟩ : ∃ out, out = apInc (fracs qs) rs.length (qs.map Rat.floor) ((qsum qs).floor - isum (qs.map Rat.floor)).toNat := ⟨_, rfl⟩
  rw [← hout]
  have HOUT := Lib.hid hout
  clear hout
  have hle := h.le
  have hSb : rs.length * (L + 2) + L + 1 < 100000000 := by
    have := Nat.mul_le_mul hn (show L + 2 ≤ 100002 by omega)
    omega
  have hcap := h.cap
  have hsh := h.short
  go_enter Tryz.func33, Tryz.ntmps33
  go_wp2_with fail
  refine (rat_FromInt _ _ (by decide) (by decide)).mono ?_
  intro e w1 hN
  obtain ⟨r1, rfl, hr1, hx1⟩ := hN.isCan
  have lim := hr1.isRat
  clear hN
  go_upto_region 4 with fail
  obtain ⟨W, hW, x0, Z0, A0⟩ := boxes1 w1 55 [.bool r1.s, .slice r1.a r1.k r1.c, .slice r1.b r1.j r1.d]
  rw [← hW]
  clear hW
  have xW : Ext w W := hx1.trans x0
  have limW : IsRat W r1 apMost 2 := (lim.ext x0).mono (by show rsz (((281474976710656 : Int) : Rat)) ≤ 2; rw [rsz_int]; decide)
  have hW := h.ext xW
  clear lim hr1
  go_wp2_with fail
  go_loopw [23] (fun ii wr => ∃ j : Nat, j ≤ rs.length ∧ Ext W wr ∧ ii = .int .i64 j) (fun ii _ => rs.length - (intOf ii).toNat)
  case atStart => exact ⟨0, Nat.zero_le _, Ext.refl _, rfl⟩
  case round =>
    obtain ⟨j, hj, hE, rfl⟩ := hrel
    by_cases hlt : j < rs.length
    · have hq := hW.ext hE
      obtain ⟨b, o, rfl⟩ := h.at (by omega)
      obtain ⟨b', o', e', c0, c1, c2⟩ := hq.cell j hlt
      cases e'
      obtain ⟨n2, m2', g1, g2, gq, gl1, gl2⟩ := hq.num j hlt
      obtain ⟨n1, m1', f1, f2, fq, fl1, fl2⟩ := limW.ext hE
      have hC1 := fun V (hV : Ext wr V) => rat_Compare V rs[j].s _ _ _ _ _ _ _ _ (g1.ext hV) (g2.ext hV) r1.s _ _ _ _ _ _ _ _ (f1.ext hV) (f2.ext hV) (by omega) (by omega) (by omega) (by omega)
      have hNg := fun V (hV : Ext wr V) => (rat_Neg V rs[j].s _ _ _ _ _ _ _ _ (g1.ext hV) (g2.ext hV) (by omega) (by omega)).mono (fun _ _ hh => hh.ratOf)
      have hrz : rsz (-(qs[j]'(by rw [h.len]; exact hlt))) < 100000000 := by
        rw [rsz_neg]
        have := (hq.num j hlt).rsz
        omega
      have hC2 : ∀ V a1 c1 b1 d1, Ext wr V → Raw V a1 (len (-(mkRat (sgn rs[j].s n2) m2')).num.natAbs) c1 (-(mkRat (sgn rs[j].s n2) m2')).num.natAbs → Raw V b1 (len (-(mkRat (sgn rs[j].s n2) m2')).den) d1 (-(mkRat (sgn rs[j].s n2) m2')).den → Calls Tryz.prog 68 #[.agg #[.bool (decide ((-(mkRat (sgn rs[j].s n2) m2')).num < 0)), .slice a1 (len (-(mkRat (sgn rs[j].s n2) m2')).num.natAbs) c1, .slice b1 (len (-(mkRat (sgn rs[j].s n2) m2')).den) d1], .agg #[.bool r1.s, .slice r1.a r1.k r1.c, .slice r1.b r1.j r1.d]] V fun e w' => e = .returned (.int .i64 (cmpQ (-(mkRat (sgn rs[j].s n2) m2')) (mkRat (sgn r1.s n1) m1'))) ∧ Ext V w' := by
        intro V a1 c1 b1 d1 hV hR hR'
        rw [← gq] at *
        have l1 := rsz_num (-(qs[j]'(by rw [h.len]; exact hlt)))
        have l2 := rsz_den (-(qs[j]'(by rw [h.len]; exact hlt)))
        have := rat_Compare V (decide ((-(qs[j]'(by rw [h.len]; exact hlt))).num < 0)) a1 b1 _ c1 _ d1 _ _ hR hR' r1.s _ _ _ _ _ _ _ _ (f1.ext hV) (f2.ext hV) (by omega) (by omega) (by omega) (by omega)
        rw [sgn_num, Rat.mkRat_self] at this
        exact this
      rw [← fq] at hC1 hC2
      rw [← gq] at hC1 hNg hC2
      have hok := hall j hlt
      have z1 := cmpQ_pos_false hok.1
      have z2 := cmpQ_pos_false hok.2
      generalize cmpQ (qs[j]'(by rw [h.len]; exact hlt)) apMost = t1 at hC1 z1
      generalize cmpQ (-(qs[j]'(by rw [h.len]; exact hlt))) apMost = t2 at hC2 z2
      generalize decide ((-(qs[j]'(by rw [h.len]; exact hlt))).num < 0) = sN at hNg hC2
      generalize (-(qs[j]'(by rw [h.len]; exact hlt))).num.natAbs = nN at hNg hC2
      generalize (-(qs[j]'(by rw [h.len]; exact hlt))).den = dN at hNg hC2
      generalize rs[j] = y at *
      clear gq fq hok hq
      have HC1 := Lib.hid hC1; have HNg := Lib.hid hNg; have HC2 := Lib.hid hC2
      clear hC1 hNg hC2
      go_upto_region 7 with fail
      obtain ⟨V, hV, xv, Zv, Av⟩ := boxes1 wr 55 [.bool y.s, .slice y.a y.k y.c, .slice y.b y.j y.d]
      rw [← hV]
      clear hV
      obtain ⟨m0, m1, m2, -, -, -⟩ := box3 Av (Ext.refl _)
      obtain ⟨k0, k1, k2, -, -, -⟩ := box3 A0 (hE.trans xv)
      clear c0 c1 c2
      have HC1 := Lib.hid (fun U (hU : Ext V U) => HC1.out U (xv.trans hU)); have HNg := Lib.hid (fun U (hU : Ext V U) => HNg.out U (xv.trans hU)); have HC2 := Lib.hid (fun U a c b d (hU : Ext V U) => HC2.out U a c b d (xv.trans hU))
      have tk1 : True := trivial
      go_region_held3 (fun w' => w'.cell? ⟨w1.heap.size, 0, none⟩ = some (.bool r1.s) ∧ w'.cell? ⟨w1.heap.size, 1, none⟩ = some (.slice r1.a r1.k r1.c) ∧ w'.cell? ⟨w1.heap.size, 2, none⟩ = some (.slice r1.b r1.j r1.d) ∧ w'.cell? ⟨wr.heap.size, 0, none⟩ = some (.bool y.s) ∧ w'.cell? ⟨wr.heap.size, 1, none⟩ = some (.slice y.a y.k y.c) ∧ w'.cell? ⟨wr.heap.size, 2, none⟩ = some (.slice y.b y.j y.d)) (first | exact ⟨k0, k1, k2, m0, m1, m2⟩) (first
        | (go_at_call 68; have _t := tk1; refine (HC1.out _ (by exact (Ext.refl _).drew)).mono ?_; rintro e w3 ⟨rfl, x3⟩; clear tk1 _t; have y3 : Ext V w3 := (Ext.refl _).drew.trans x3; have k0 := cell_ext ((Ext.refl _).drew.trans x3) k0; have k1 := cell_ext ((Ext.refl _).drew.trans x3) k1; have k2 := cell_ext ((Ext.refl _).drew.trans x3) k2; have m0 := cell_ext ((Ext.refl _).drew.trans x3) m0; have m1 := cell_ext ((Ext.refl _).drew.trans x3) m1; have m2 := cell_ext ((Ext.refl _).drew.trans x3) m2)
        | (go_at_call 81; refine (HNg.out _ (by exact y3)).mono ?_; rintro e w4 ⟨a4, c4, b4, d4, rfl, r4, f4, q4, g4, x4⟩; have y4 : Ext V w4 := y3.trans x4; have k0 := cell_ext x4 k0; have k1 := cell_ext x4 k1; have k2 := cell_ext x4 k2; have m0 := cell_ext x4 m0; have m1 := cell_ext x4 m1; have m2 := cell_ext x4 m2)
        | (go_at_call 68; refine (HC2.out _ _ _ _ _ (by exact y4) r4 q4).mono ?_; rintro e w5 ⟨rfl, x5⟩; have y5 : Ext V w5 := y4.trans x5; have k0 := cell_ext x5 k0; have k1 := cell_ext x5 k1; have k2 := cell_ext x5 k2; have m0 := cell_ext x5 m0; have m1 := cell_ext x5 m1; have m2 := cell_ext x5 m2))
      go_wp2_with fail
      go_roundw
      case rel => exact ⟨j + 1, by omega, (hE.trans xv).trans y5, by go_num⟩
      case measure => simp [intOf] <;> omega
    · obtain rfl : j = rs.length := by omega
      go_wp2_with fail
      refine (rat_Sum _ _ _ _ _ _ (hW.ext hE) hSb).mono ?_
      intro e w2 hN
      obtain ⟨r2, rfl, hr2, hx2⟩ := hN.isCan
      clear hN
      have hS2 := hr2.isRat
      have f2 := hr2.fa
      have f2' := hr2.fb
      clear hr2
      obtain ⟨n5, m5, g1, g2, gq, gl1, gl2⟩ := hS2
      have hFl := fun V (hV : Ext w2 V) => (rat_Floor V r2.s _ _ _ _ _ _ _ _ (g1.ext hV) (g2.ext hV) (by omega) (by omega)).mono (fun _ _ hh => hh.intOf)
      have hFr := fun V => (rat_FromInt V (qsum qs).floor (by omega) (by omega)).mono (fun _ _ hh => hh.ratOf)
      have hVal : ∀ V a c, Raw V a (len (qsum qs).floor.natAbs) c (qsum qs).floor.natAbs → Calls Tryz.prog 83 #[.agg #[.bool (decide ((qsum qs).floor < 0)), .slice a (len (qsum qs).floor.natAbs) c]] V fun e w' => e = .returned (.tuple #[.int .i64 (qsum qs).floor, .bool true]) ∧ Ext V w' := by
        intro V a c hR
        have := int_Value V (decide ((qsum qs).floor < 0)) a _ c _ hR (by rw [sgn_num]; omega) (by rw [sgn_num]; omega)
        rw [sgn_num] at this
        exact this
      have hCm : ∀ V a1 c1 b1 d1, Ext w2 V → Raw V a1 (len (((qsum qs).floor : Int) : Rat).num.natAbs) c1 (((qsum qs).floor : Int) : Rat).num.natAbs → Raw V b1 (len (((qsum qs).floor : Int) : Rat).den) d1 (((qsum qs).floor : Int) : Rat).den → Calls Tryz.prog 68 #[.agg #[.bool r2.s, .slice r2.a r2.k r2.c, .slice r2.b r2.j r2.d], .agg #[.bool (decide ((((qsum qs).floor : Int) : Rat).num < 0)), .slice a1 (len (((qsum qs).floor : Int) : Rat).num.natAbs) c1, .slice b1 (len (((qsum qs).floor : Int) : Rat).den) d1]] V fun e w' => e = .returned (.int .i64 (cmpQ (mkRat (sgn r2.s n5) m5) (((qsum qs).floor : Int) : Rat))) ∧ Ext V w' := by
        intro V a1 c1 b1 d1 hV hR hR'
        have l1 := rsz_num (((qsum qs).floor : Int) : Rat)
        have l2 := rsz_den (((qsum qs).floor : Int) : Rat)
        have l3 := rsz_int (qsum qs).floor
        have l4 := len_natAbs_i64 (z := (qsum qs).floor) (by omega) (by omega)
        have := rat_Compare V r2.s _ _ _ _ _ _ _ _ (g1.ext hV) (g2.ext hV) (decide ((((qsum qs).floor : Int) : Rat).num < 0)) a1 b1 _ c1 _ d1 _ _ hR hR' (by omega) (by omega) (by omega) (by omega)
        rw [sgn_num, Rat.mkRat_self] at this
        exact this
      rw [← gq] at hFl hCm
      have hcz : ((cmpQ (qsum qs) (((qsum qs).floor : Int) : Rat)) != 0) = false := by rw [bne_eq_false_iff_eq]; exact cmpQ_eq.2 hint
      generalize cmpQ (qsum qs) (((qsum qs).floor : Int) : Rat) = zc at hCm hcz
      generalize decide ((((qsum qs).floor : Int) : Rat).num < 0) = sM at hFr hCm
      generalize (((qsum qs).floor : Int) : Rat).num.natAbs = nM at hFr hCm
      generalize (((qsum qs).floor : Int) : Rat).den = dM at hFr hCm
      generalize decide ((qsum qs).floor < 0) = sF at hFl hVal
      generalize (qsum qs).floor.natAbs = nF at hFl hVal
      obtain ⟨F, hF⟩ : ∃ F, F = (qsum qs).floor := ⟨_, rfl⟩
      rw [← hF] at hFr hVal hF1 hF2
      have HFl := Lib.hid hFl; have HFr := Lib.hid hFr; have HVal := Lib.hid hVal; have HCm := Lib.hid hCm; have HF := Lib.hid hF
      clear hFl hFr hVal hCm gq hF
      go_upto_region 11 with fail
      obtain ⟨W3, hW3, x3, Z3, A3⟩ := boxes1 w2 55 [.bool r2.s, .slice r2.a r2.k r2.c, .slice r2.b r2.j r2.d]
      rw [← hW3]
      clear hW3
      obtain ⟨k0, k1, k2, -, -, -⟩ := box3 A3 (Ext.refl _)
      go_wp2_with fail
      refine (HFl.out _ x3).mono ?_
      rintro e w4 ⟨a4, c4, rfl, r4, f4, x4⟩
      go_wp2_with fail
      refine (HVal.out _ _ _ r4).mono ?_
      rintro e w5 ⟨rfl, x5⟩
      clear k0 k1 k2
      have y5 : Ext W3 w5 := x4.trans x5
      obtain ⟨k0, k1, k2, -, -, -⟩ := box3 A3 y5
      go_wp2_with fail
      go_region_held3 (fun w' => w'.cell? ⟨w2.heap.size, 0, none⟩ = some (.bool r2.s) ∧ w'.cell? ⟨w2.heap.size, 1, none⟩ = some (.slice r2.a r2.k r2.c) ∧ w'.cell? ⟨w2.heap.size, 2, none⟩ = some (.slice r2.b r2.j r2.d)) (first | exact ⟨k0, k1, k2⟩) (first
        | (go_at_call 80; refine (HFr.out _).mono ?_; rintro e w6 ⟨a6, c6, b6, d6, rfl, r6, f6, q6, g6, x6⟩; have y6 : Ext W3 w6 := (y5.drew).trans x6; have k0 := cell_ext ((Ext.refl _).drew.trans x6) k0; have k1 := cell_ext ((Ext.refl _).drew.trans x6) k1; have k2 := cell_ext ((Ext.refl _).drew.trans x6) k2)
        | (go_at_call 68; refine (HCm.out _ _ _ _ _ (by exact x3.trans y6) r6 q6).mono ?_; rintro e w7 ⟨rfl, x7⟩; have y7 : Ext W3 w7 := y6.trans x7; have k0 := cell_ext x7 k0; have k1 := cell_ext x7 k1; have k2 := cell_ext x7 k2))
      have xE : Ext w w7 := ((xW.trans hE).trans hx2).trans (x3.trans y7)
      clear k0 k1 k2 HFl HFr HVal HCm
      go_upto_region 15 with (at_make; refine wpList_make_one _ rfl _ _ 22 rfl 3 (.int .i64 0) 8 Tryz.underlying22 Tryz.info_int rfl _ _ rs.length rfl rfl (by go_num) (by go_num) (by omega) (by omega) ?_; intro w8 hw8 hx8 hz8)
      go_upto_region 16 with (at_make; refine wpList_make_three _ rfl _ _ 48 rfl 55 (.agg zero3.toArray) 56 Tryz.underlying48 Tryz.info_rat rfl _ _ rs.length rfl rfl (by go_num) (by go_num) (by omega) (by omega) ?_; intro w9 hw9 hx9 hz9)
      obtain ⟨Wp, hWp, xp, Zp, Ap⟩ := boxes1 w9 48 [.slice (some ⟨w8.heap.size, 0, none⟩) rs.length rs.length]
      rw [← hWp]
      clear hWp
      go_upto_region 17 with (at_make; refine wpList_make_one _ rfl _ _ 22 rfl 3 (.int .i64 0) 8 Tryz.underlying22 Tryz.info_int rfl _ _ rs.length rfl rfl (by go_num) (by go_num) (by omega) (by omega) ?_; intro w10 hw10 hx10 hz10)
      have xE10 : Ext w w10 := (((xE.trans hx8).trans hx9).trans xp).trans hx10
      have z8 := hz8.out
      have z9 := hz9.out
      have zp := Zp.out
      have z10 := hz10.out
      have sw7 := xE.size
      obtain ⟨bw, hbw⟩ : ∃ bw, bw = w7.heap.size := ⟨_, rfl⟩
      obtain ⟨bg, hbg⟩ : ∃ bg, bg = w8.heap.size := ⟨_, rfl⟩
      obtain ⟨pb, hpb⟩ : ∃ pb, pb = w9.heap.size := ⟨_, rfl⟩
      obtain ⟨bo, hbo⟩ : ∃ bo, bo = Wp.heap.size := ⟨_, rfl⟩
      obtain ⟨BB, hBB⟩ : ∃ BB, BB = w10.heap.size := ⟨_, rfl⟩
      have o1 : w.heap.size ≤ bw := by omega
      have o2 : bw < bg := by omega
      have o3 : bg < pb := by omega
      have o4 : pb < bo := by omega
      have o5 : bo < BB := by omega
      have aW : Arr w10 bw 3 (i64s (([] : List Int) ++ List.replicate rs.length 0)) := by
        have h5 := hw8.out
        rw [i64s_zeros, ← hbw] at h5
        exact ((h5.ext hx9).ext xp).ext hx10
      have aG : Arr w10 bg 55 (ratCells [] ++ zeros3 rs.length) := by
        have h5 := hw9.out
        rw [← hbg] at h5
        exact (h5.ext xp).ext hx10
      have aP : Arr w10 pb 48 [.slice (some ⟨bg, 0, none⟩) rs.length rs.length] := by
        rw [hpb, hbg]; exact Ap.ext hx10
      have aO : Arr w10 bo 3 (i64s (([] : List Int) ++ List.replicate rs.length 0)) := by
        have h5 := hw10.out
        rw [i64s_zeros, ← hbo] at h5
        exact h5
      rw [← hbw, ← hbg, ← hpb, ← hbo]
      have HBB := Lib.hid hBB
      clear hw8 hw9 hw10 Ap hz8 hz9 Zp hz10 z8 z9 zp z10 sw7 hx8 hx9 xp hx10 hbw hbg hpb hbo hBB hE hx2 x3 y7 y6 y5 x7 x6 r6 q6 f6 g6 r4 f4 x4 x5 A3 hW limW A0 x0 xW f2 f2' g1 g2
      have SI : Hid (ApAt w qs rs.length bw bg pb bo BB F 0 w10) := ⟨[], rfl, Nat.zero_le _, aW, aG, aP, aO, fun k hk => absurd hk (by simp), xE10, by rw [HBB.out]; exact Nat.le_refl _⟩
      go_wp2_with fail
      go_loopw [8, 63] (fun s8 ii wr => ∃ i : Nat, ApAt w qs rs.length bw bg pb bo BB F i wr ∧ s8 = .int .i64 (F - isum ((qs.map Rat.floor).take i)) ∧ ii = .int .i64 i) (fun _ ii _ => rs.length - (intOf ii).toNat)
      case atStart => exact ⟨0, SI.out, by show _ = Value.int .i64 (F - 0); rw [Int.sub_zero], rfl⟩
      case round =>
        obtain ⟨i, hAt, rfl, rfl⟩ := hrel
        obtain ⟨prs, hpl, hi, aW, aG, aP, aO, hcan, hxw, hBw⟩ := hAt
        by_cases hlt : i < rs.length
        · have hil : i < qs.length := by rw [h.len]; exact hlt
          obtain ⟨b, o, rfl⟩ := h.at (by omega)
          obtain ⟨b', o', e', c0, c1, c2⟩ := (h.ext hxw).cell i hlt
          cases e'
          obtain ⟨n2, m2', g1, g2, gq, gl1, gl2⟩ := h.num i hlt
          have hqi : qs[i]?.getD 0 = qs[i]'hil := by rw [List.getElem?_eq_getElem hil]; rfl
          have hok := hall i hlt
          obtain ⟨fl1, fl2⟩ := apOk_floor hok
          have hFl := fun V (hV : Ext w V) => (rat_Floor V rs[i].s _ _ _ _ _ _ _ _ (g1.ext hV) (g2.ext hV) (by omega) (by omega)).mono (fun _ _ hh => hh.intOf)
          rw [← gq] at hFl
          have hrz : rsz (qs[i]'hil) < 100000000 := by have := (h.num i hlt).rsz; omega
          have hFr := fun V => (rat_FromInt V (qs[i]'hil).floor (by omega) (by omega)).mono (fun _ _ hh => hh.ratOf)
          have hVal : ∀ V a c, Raw V a (len (qs[i]'hil).floor.natAbs) c (qs[i]'hil).floor.natAbs → Calls Tryz.prog 83 #[.agg #[.bool (decide ((qs[i]'hil).floor < 0)), .slice a (len (qs[i]'hil).floor.natAbs) c]] V fun e w' => e = .returned (.tuple #[.int .i64 (qs[i]'hil).floor, .bool true]) ∧ Ext V w' := by
            intro V a c hR
            have := int_Value V (decide ((qs[i]'hil).floor < 0)) a _ c _ hR (by rw [sgn_num]; omega) (by rw [sgn_num]; omega)
            rw [sgn_num] at this
            exact this
          have hSub : ∀ V a1 c1 b1 d1, Ext w V → Raw V a1 (len (((qs[i]'hil).floor : Int) : Rat).num.natAbs) c1 (((qs[i]'hil).floor : Int) : Rat).num.natAbs → Raw V b1 (len (((qs[i]'hil).floor : Int) : Rat).den) d1 (((qs[i]'hil).floor : Int) : Rat).den → Calls Tryz.prog 85 #[.agg #[.bool rs[i].s, .slice rs[i].a rs[i].k rs[i].c, .slice rs[i].b rs[i].j rs[i].d], .agg #[.bool (decide ((((qs[i]'hil).floor : Int) : Rat).num < 0)), .slice a1 (len (((qs[i]'hil).floor : Int) : Rat).num.natAbs) c1, .slice b1 (len (((qs[i]'hil).floor : Int) : Rat).den) d1]] V (NewRat (qs[i]?.getD 0 - (((qs[i]?.getD 0).floor : Int) : Rat)) V) := by
            intro V a1 c1 b1 d1 hV hR hR'
            have l1 := rsz_num (((qs[i]'hil).floor : Int) : Rat)
            have l2 := rsz_den (((qs[i]'hil).floor : Int) : Rat)
            have l3 := rsz_int (qs[i]'hil).floor
            have l4 := len_natAbs_i64 (z := (qs[i]'hil).floor) (by omega) (by omega)
            have := rat_Sub V rs[i].s _ _ _ _ _ _ _ _ (g1.ext hV) (g2.ext hV) (decide ((((qs[i]'hil).floor : Int) : Rat).num < 0)) a1 b1 _ c1 _ d1 _ _ hR hR' (by omega) (by omega) (by omega) (by omega)
            rw [sgn_num, Rat.mkRat_self, ← gq] at this
            rw [hqi]
            exact this
          have hfs : (qs.map Rat.floor)[i]'(by simpa using hil) = (qs[i]'hil).floor := by simp
          have htk : (qs.map Rat.floor).take (i + 1) = (qs.map Rat.floor).take i ++ [(qs[i]'hil).floor] := by
            rw [List.take_succ_eq_append_getElem (by simpa using hil), hfs]
          have hisum : isum ((qs.map Rat.floor).take (i + 1)) = isum ((qs.map Rat.floor).take i) + (qs[i]'hil).floor := by
            rw [htk]; unfold isum; simp
          have hib := isum_bound ((qs.map Rat.floor).take i) 281474976710656 (by
            intro x hx
            obtain ⟨q, hq, rfl⟩ := List.mem_map.1 (List.mem_of_mem_take hx)
            obtain ⟨k, hk, rfl⟩ := List.getElem_of_mem hq
            exact apOk_floor (hall k (by rw [← h.len]; exact hk)))
          rw [List.length_take, List.length_map, Nat.min_eq_left (by omega)] at hib
          generalize decide ((((qs[i]'hil).floor : Int) : Rat).num < 0) = sM at hFr hSub
          generalize (((qs[i]'hil).floor : Int) : Rat).num.natAbs = nM at hFr hSub
          generalize (((qs[i]'hil).floor : Int) : Rat).den = dM at hFr hSub
          generalize decide ((qs[i]'hil).floor < 0) = sF at hFl hVal
          generalize (qs[i]'hil).floor.natAbs = nF at hFl hVal
          generalize (qs[i]'hil).floor = z at *
          have HFl := Lib.hid hFl; have HFr := Lib.hid hFr; have HVal := Lib.hid hVal; have HSub := Lib.hid hSub; have HTK := Lib.hid htk; have HIS := Lib.hid hisum
          clear hFl hFr hVal hSub htk hisum hfs gq g1 g2 hok hqi
          generalize rs[i] = y at *
          have b0 : (0 : Int) ≤ (i : Int) := by omega
          have b1 : (i : Int) < (rs.length : Int) := by omega
          go_upto_region 20 with fail
          obtain ⟨V0, hV0, xv, Zv, Av⟩ := boxes1 wr 55 [.bool y.s, .slice y.a y.k y.c, .slice y.b y.j y.d]
          rw [← hV0]
          clear hV0 c0 c1 c2
          obtain ⟨m0, m1, m2, -, -, -⟩ := box3 Av (Ext.refl _)
          go_wp2_with fail
          refine (HFl.out _ (hxw.trans xv)).mono ?_
          rintro e w11 ⟨a11, c11, rfl, r11, f11, x11⟩
          go_wp2_with fail
          refine (HVal.out _ _ _ r11).mono ?_
          rintro e w12 ⟨rfl, x12⟩
          clear m0 m1 m2 r11 f11
          have v12 : Ext wr w12 := (xv.trans x11).trans x12
          obtain ⟨m, hm⟩ : ∃ m, rs.length - i = m + 1 := ⟨rs.length - i - 1, by omega⟩
          have hm' : rs.length - (i + 1) = m := by omega
          rw [hm] at aW aG aO
          have eW : ((qs.map Rat.floor).take i).length = i := by rw [List.length_take, List.length_map]; omega
          have cW : w12.cell? ⟨bw, i, none⟩ = some (.int .i64 0) := by
            rw [(aW.ext v12).cell, i64s_get _ _ (by simp; omega)]
            congr 2
            rw [List.getElem_append_right (by omega)]; simp
          have fW := (aW.ext v12).frozen i
          have B1 : Arr (w12.setCell ⟨bw, i, none⟩ (.int .i64 z)) bw 3 (i64s ((qs.map Rat.floor).take (i + 1) ++ List.replicate m 0)) := by
            have h5 := (aW.ext v12).set i (.int .i64 z)
            have h6 := i64s_next ((qs.map Rat.floor).take i) m z
            rw [eW] at h6
            rw [h6, ← HTK.out] at h5
            exact h5
          have B2 := (aG.ext v12).other ⟨bw, i, none⟩ (.int .i64 z) (by simp only; omega)
          have B3 := (aP.ext v12).other ⟨bw, i, none⟩ (.int .i64 z) (by simp only; omega)
          have B4 := (aO.ext v12).other ⟨bw, i, none⟩ (.int .i64 z) (by simp only; omega)
          have B5 := (Av.ext (x11.trans x12)).other ⟨bw, i, none⟩ (.int .i64 z) (by simp only; omega)
          have B6 := fun k hk => ((hcan k hk).ext v12).setCell ⟨bw, i, none⟩ (.int .i64 z) (by simp only; omega)
          have B7 : Ext w (w12.setCell ⟨bw, i, none⟩ (.int .i64 z)) := (hxw.trans v12).setCell (by simp only; omega) _
          have B8 : BB ≤ (w12.setCell ⟨bw, i, none⟩ (.int .i64 z)).heap.size := by
            have := v12.size
            simp [World.setCell]; omega
          have s4 : (w12.setCell ⟨bw, i, none⟩ (.int .i64 z)).cell? ⟨bw, i, none⟩ = some (.int .i64 z) := by
            rw [B1.cell, i64s_get _ _ (by simp; omega)]
            congr 2
            rw [List.getElem_append_left (by simp; omega)]
            have h7 := HTK.out
            simp [h7, eW]
          go_upto_region 21 with fail
          clear cW fW aW aG aP aO hcan
          generalize w12.setCell ⟨bw, i, none⟩ (.int .i64 z) = V1 at *
          have s0 := B3.cell 0
          obtain ⟨s1, s2, s3, -, -, -⟩ := box3 B5 (Ext.refl _)
          simp at s0
          have hpc : (ratCells prs).length = i * 3 := by rw [ratCells_length, hpl]
          have HPC := Lib.hid hpc; clear hpc
          go_region_held3 (fun w' => w'.cell? ⟨pb, 0, none⟩ = some (.slice (some ⟨bg, 0, none⟩) rs.length rs.length) ∧ w'.cell? ⟨wr.heap.size, 0, none⟩ = some (.bool y.s) ∧ w'.cell? ⟨wr.heap.size, 1, none⟩ = some (.slice y.a y.k y.c) ∧ w'.cell? ⟨wr.heap.size, 2, none⟩ = some (.slice y.b y.j y.d) ∧ w'.cell? ⟨bw, i, none⟩ = some (.int .i64 z)) (first | exact ⟨s0, s1, s2, s3, s4⟩ | exact ⟨cell_three s0 (by simp only; omega), cell_three s1 (by simp only; omega), cell_three s2 (by simp only; omega), cell_three s3 (by simp only; omega), cell_three s4 (by simp only; omega)⟩) (first
            | (go_at_call 80; refine (HFr.out _).mono ?_; rintro e w13 ⟨a13, c13, b13, d13, rfl, r13, f13, q13, g13, x13⟩; have v13 : Ext V1 w13 := (Ext.refl _).drew.trans x13; have s0 := cell_ext ((Ext.refl _).drew.trans x13) s0; have s1 := cell_ext ((Ext.refl _).drew.trans x13) s1; have s2 := cell_ext ((Ext.refl _).drew.trans x13) s2; have s3 := cell_ext ((Ext.refl _).drew.trans x13) s3; have s4 := cell_ext ((Ext.refl _).drew.trans x13) s4)
            | (go_at_call 85; refine (HSub.out _ _ _ _ _ (by exact B7.trans v13) r13 q13).mono ?_; intro e w14 hN; obtain ⟨r14, rfl, hr14, x14⟩ := hN.isCan; clear hN; have v14 : Ext V1 w14 := v13.trans x14; have s0 := cell_ext x14 s0; have s1 := cell_ext x14 s1; have s2 := cell_ext x14 s2; have s3 := cell_ext x14 s3; have s4 := cell_ext x14 s4; obtain ⟨p0, p1, p2, p3, p4, p5⟩ := zero_at (B2.ext v14) HPC.out))
          go_upto_region 22 with fail
          have sz14 := v14.size
          have C1 := ((((B1.ext v14).other ⟨bg, i * 3, none⟩ (.bool r14.s) (by simp only; omega)).other ⟨bg, i * 3 + 1, none⟩ (.slice r14.a r14.k r14.c) (by simp only; omega)).other ⟨bg, i * 3 + 2, none⟩ (.slice r14.b r14.j r14.d) (by simp only; omega))
          have C2 : Arr (((w14.setCell ⟨bg, i * 3, none⟩ (.bool r14.s)).setCell ⟨bg, i * 3 + 1, none⟩ (.slice r14.a r14.k r14.c)).setCell ⟨bg, i * 3 + 2, none⟩ (.slice r14.b r14.j r14.d)) bg 55 (ratCells (prs ++ [r14]) ++ zeros3 m) := by
            have h5 := (((B2.ext v14).set (i * 3) (.bool r14.s)).set (i * 3 + 1) (.slice r14.a r14.k r14.c)).set (i * 3 + 2) (.slice r14.b r14.j r14.d)
            have h6 := fill3 (ratCells prs) m (.bool r14.s) (.slice r14.a r14.k r14.c) (.slice r14.b r14.j r14.d)
            rw [HPC.out] at h6
            rw [h6] at h5
            rw [ratCells_snoc]
            exact h5
          have C3 := ((((B3.ext v14).other ⟨bg, i * 3, none⟩ (.bool r14.s) (by simp only; omega)).other ⟨bg, i * 3 + 1, none⟩ (.slice r14.a r14.k r14.c) (by simp only; omega)).other ⟨bg, i * 3 + 2, none⟩ (.slice r14.b r14.j r14.d) (by simp only; omega))
          have C4 := ((((B4.ext v14).other ⟨bg, i * 3, none⟩ (.bool r14.s) (by simp only; omega)).other ⟨bg, i * 3 + 1, none⟩ (.slice r14.a r14.k r14.c) (by simp only; omega)).other ⟨bg, i * 3 + 2, none⟩ (.slice r14.b r14.j r14.d) (by simp only; omega))
          have C6 := fun k hk => ((((B6 k hk).ext v14).setCell ⟨bg, i * 3, none⟩ (.bool r14.s) (by simp only; omega)).setCell ⟨bg, i * 3 + 1, none⟩ (.slice r14.a r14.k r14.c) (by simp only; omega)).setCell ⟨bg, i * 3 + 2, none⟩ (.slice r14.b r14.j r14.d) (by simp only; omega)
          have C6' := (((hr14.mono (show BB ≤ w13.heap.size by have := v13.size; omega)).setCell ⟨bg, i * 3, none⟩ (.bool r14.s) (by simp only; omega)).setCell ⟨bg, i * 3 + 1, none⟩ (.slice r14.a r14.k r14.c) (by simp only; omega)).setCell ⟨bg, i * 3 + 2, none⟩ (.slice r14.b r14.j r14.d) (by simp only; omega)
          have C7 : Ext w (((w14.setCell ⟨bg, i * 3, none⟩ (.bool r14.s)).setCell ⟨bg, i * 3 + 1, none⟩ (.slice r14.a r14.k r14.c)).setCell ⟨bg, i * 3 + 2, none⟩ (.slice r14.b r14.j r14.d)) := ((((B7.trans v14).setCell (by simp only; omega) _).setCell (by simp only; omega) _).setCell (by simp only; omega) _)
          have C8 : BB ≤ (((w14.setCell ⟨bg, i * 3, none⟩ (.bool r14.s)).setCell ⟨bg, i * 3 + 1, none⟩ (.slice r14.a r14.k r14.c)).setCell ⟨bg, i * 3 + 2, none⟩ (.slice r14.b r14.j r14.d)).heap.size := by simp [World.setCell]; omega
          have C9 := cell_three (b := bg) (x := i * 3) (v0 := .bool r14.s) (v1 := .slice r14.a r14.k r14.c) (v2 := .slice r14.b r14.j r14.d) s4 (by simp only; omega)
          clear s0 s1 s2 s3 s4 p0 p1 p2 p3 p4 p5 B1 B2 B3 B4 B5 B6 hr14
          generalize ((w14.setCell ⟨bg, i * 3, none⟩ (.bool r14.s)).setCell ⟨bg, i * 3 + 1, none⟩ (.slice r14.a r14.k r14.c)).setCell ⟨bg, i * 3 + 2, none⟩ (.slice r14.b r14.j r14.d) = V2 at *
          have eO : ((List.range i).map (fun k : Nat => (k : Int))).length = i := by simp
          have cO : V2.cell? ⟨bo, i, none⟩ = some (.int .i64 0) := by
            rw [C4.cell, i64s_get _ _ (by simp)]
            congr 2
            rw [List.getElem_append_right (by simp)]; simp
          have fO := C4.frozen i
          have D4 : Arr (V2.setCell ⟨bo, i, none⟩ (.int .i64 (i : Nat))) bo 3 (i64s ((List.range (i + 1)).map (fun k : Nat => (k : Int)) ++ List.replicate m 0)) := by
            have h5 := C4.set i (.int .i64 (i : Nat))
            have h6 := i64s_next ((List.range i).map (fun k : Nat => (k : Int))) m (i : Int)
            rw [eO] at h6
            rw [h6] at h5
            rw [List.range_succ, List.map_append]
            exact h5
          have D1 := C1.other ⟨bo, i, none⟩ (.int .i64 (i : Nat)) (by simp only; omega)
          have D2 := C2.other ⟨bo, i, none⟩ (.int .i64 (i : Nat)) (by simp only; omega)
          have D3 := C3.other ⟨bo, i, none⟩ (.int .i64 (i : Nat)) (by simp only; omega)
          have D6 := fun k hk => (C6 k hk).setCell ⟨bo, i, none⟩ (.int .i64 (i : Nat)) (by simp only; omega)
          have D6' := C6'.setCell ⟨bo, i, none⟩ (.int .i64 (i : Nat)) (by simp only; omega)
          have D7 : Ext w (V2.setCell ⟨bo, i, none⟩ (.int .i64 (i : Nat))) := C7.setCell (by simp only; omega) _
          have D8 : BB ≤ (V2.setCell ⟨bo, i, none⟩ (.int .i64 (i : Nat))).heap.size := by simp [World.setCell]; exact C8
          have D9 : (V2.setCell ⟨bo, i, none⟩ (.int .i64 (i : Nat))).cell? ⟨bw, i, none⟩ = some (.int .i64 z) := by
            rw [World.cell?_setCell_other _ _ _ _ (by intro e; simp only [Addr.mk.injEq] at e; omega)]; exact C9
          have HD : Hid (ApAt w qs rs.length bw bg pb bo BB F (i + 1) (V2.setCell ⟨bo, i, none⟩ (.int .i64 (i : Nat)))) := by
            refine ⟨prs ++ [r14], by simp [hpl], by omega, by rw [hm']; exact D1, by rw [hm']; exact D2, D3, by rw [hm']; exact D4, ?_, D7, D8⟩
            intro k hk
            by_cases hki : k < prs.length
            · rw [List.getElem_append_left hki]; exact D6 k hki
            · have hk' : k = i := by simp at hk; omega
              subst hk'
              rw [List.getElem_append_right (by omega)]
              simp only [hpl, Nat.sub_self, List.getElem_cons_zero]
              exact D6'
          go_upto_region 23 with fail
          generalize V2.setCell ⟨bo, i, none⟩ (.int .i64 (i : Nat)) = V3 at *
          clear C1 C2 C3 C4 C6 C6' D1 D2 D3 D4 D6 D6'
          go_wp2_with fail
          refine ⟨⟨i + 1, HD.out, congrArg (Value.int .i64) ?_, by go_num⟩, by simp [intOf] <;> omega⟩
          rw [HIS.out]
          have : (i : Int) * 281474976710656 ≤ 128 * 281474976710656 := Int.mul_le_mul_of_nonneg_right (by omega) (by decide)
          first | omega | (unfold wrap64; omega)
        · obtain rfl : i = rs.length := by omega
          rw [Nat.sub_self] at aW aG aO
          rw [List.take_of_length_le (by rw [List.length_map, h.len]; exact Nat.le_refl _)] at aW ⊢
          have hflen : (fracs qs).length = rs.length := by unfold fracs; rw [List.length_map, h.len]
          have hRt : Rats wr (some ⟨bg, 0, none⟩) rs.length prs (fracs qs) (L + 10) := by
            refine ⟨by rw [hflen, hpl], by omega, by omega, by omega, fun k hk => ⟨bg, 0, rfl, ?_, ?_, ?_⟩, fun k hk => ?_⟩
            · rw [Nat.zero_add, aG.cell, List.getElem?_append_left (by rw [ratCells_length]; omega)]; exact ratCells_get prs k 0 hk (by decide)
            · rw [Nat.zero_add, aG.cell, List.getElem?_append_left (by rw [ratCells_length]; omega)]; exact ratCells_get prs k 1 hk (by decide)
            · rw [Nat.zero_add, aG.cell, List.getElem?_append_left (by rw [ratCells_length]; omega)]; exact ratCells_get prs k 2 hk (by decide)
            · have h5 := (hcan k hk).isRat
              have hkq : k < qs.length := by rw [h.len]; omega
              have e5 : qs[k]?.getD 0 = qs[k]'hkq := by rw [List.getElem?_eq_getElem hkq]; rfl
              rw [e5] at h5
              have e6 : (fracs qs)[k]'(by omega) = qs[k]'hkq - (((qs[k]'hkq).floor : Int) : Rat) := by unfold fracs; simp
              rw [e6]
              refine h5.mono ?_
              have l1 := rsz_sub (qs[k]'hkq) (((qs[k]'hkq).floor : Int) : Rat)
              have l2 := rsz_int (qs[k]'hkq).floor
              obtain ⟨l3, l4⟩ := apOk_floor (hall k (by omega))
              have l5 := len_natAbs_i64 (z := (qs[k]'hkq).floor) (by omega) (by omega)
              have l6 := (h.num k (by omega)).rsz
              omega
          have hsort := ap_sort wr pb bg bo rs.length (L + 10) rs.length prs (fracs qs) (by have := aP.cell 0; simpa using this) hRt hpl (by omega) h0n (by omega) (by omega) (by omega)
            (fun k hk => ⟨fun x e => by have := (hcan k hk).fa x e; omega, fun x e => by have := (hcan k hk).fb x e; omega⟩)
            (fun k hk => ⟨by
              rw [aO.cell, i64s_get _ _ (by simp; exact hk)]
              simp, aO.frozen k⟩)
          have HS := Lib.hid hsort
          clear hsort hRt
          obtain ⟨M, hM⟩ : ∃ M : Nat, F - isum (qs.map Rat.floor) = (M : Int) := ⟨(F - isum (qs.map Rat.floor)).toNat, by have := HF.out; omega⟩
          have hMn : M ≤ rs.length := by have := HF.out; omega
          rw [hM]
          have HMM : Hid (M = ((qsum qs).floor - isum (qs.map Rat.floor)).toNat) := (show _ = _ by have := HF.out; omega)
          clear hM
          go_wp2_with fail
          refine HS.out.mono ?_
          rintro e w15 ⟨rfl, hso⟩
          have sz15 := hso.size
          have A1 : Arr w15 bw 3 (i64s (apInc (fracs qs) rs.length (qs.map Rat.floor) 0)) := by
            unfold Arr
            rw [hso.agree bw (by omega) (by omega)]
            have h5 := aW
            rw [List.replicate_zero, List.append_nil] at h5
            exact h5
          have X15 : Ext w w15 := ⟨⟨hso.os.trans hxw.below.os, hso.tape.trans hxw.below.tape, hso.output.trans hxw.below.output, by have := hxw.size; omega, fun k hk => (hso.agree k (by have := hxw.size; omega) (by omega)).trans (hxw.below.block k hk)⟩, Nat.le_trans hxw.drawn hso.drawn⟩
          have cO := hso.cell
          have CO := Lib.hid cO
          clear cO aW aG aP aO hcan HS hso
          go_wp2_with fail
          go_loopw [105] (fun ii wr => ∃ t : Nat, t ≤ M ∧ Hid (Arr wr bw 3 (i64s (apInc (fracs qs) rs.length (qs.map Rat.floor) t))) ∧ Hid (∀ j, j < rs.length → wr.cell? ⟨bo, j, none⟩ = some (.int .i64 (apAt (fracs qs) rs.length j : Nat))) ∧ Ext w wr ∧ ii = .int .i64 t) (fun ii _ => M - (intOf ii).toNat)
          case atStart => exact ⟨0, Nat.zero_le _, A1, CO, X15, rfl⟩
          case round =>
            obtain ⟨t, ht, hA, hC, hX, rfl⟩ := hrel
            by_cases htl : t < M
            · have c1 := hC.out t (by omega)
              have hp := apAt_lt (fracs qs) rs.length t (by omega)
              have hl := apInc_length (fracs qs) rs.length (qs.map Rat.floor) t
              rw [List.length_map, h.len] at hl
              have c2 : wr.cell? ⟨bw, apAt (fracs qs) rs.length t, none⟩ = some (.int .i64 ((apInc (fracs qs) rs.length (qs.map Rat.floor) t)[apAt (fracs qs) rs.length t]?.getD 0)) := by
                rw [hA.out.cell, i64s_get _ _ (by omega), List.getElem?_eq_getElem (by omega)]; rfl
              have c3 := hA.out.frozen (apAt (fracs qs) rs.length t)
              have hbd := apInc_bound (fracs qs) rs.length (qs.map Rat.floor) t (apAt (fracs qs) rs.length t) (by
                intro x hx
                obtain ⟨q, hq, rfl⟩ := List.mem_map.1 hx
                obtain ⟨k, hk, rfl⟩ := List.getElem_of_mem hq
                exact apOk_floor (hall k (by rw [← h.len]; exact hk)))
              have D1 : Arr (wr.setCell ⟨bw, apAt (fracs qs) rs.length t, none⟩ (.int .i64 ((apInc (fracs qs) rs.length (qs.map Rat.floor) t)[apAt (fracs qs) rs.length t]?.getD 0 + 1))) bw 3 (i64s (apInc (fracs qs) rs.length (qs.map Rat.floor) (t + 1))) := by
                have h5 := hA.out.set (apAt (fracs qs) rs.length t) (.int .i64 ((apInc (fracs qs) rs.length (qs.map Rat.floor) t)[apAt (fracs qs) rs.length t]?.getD 0 + 1))
                unfold i64s at h5
                rw [← List.map_set] at h5
                exact h5
              have D2 : ∀ j, j < rs.length → (wr.setCell ⟨bw, apAt (fracs qs) rs.length t, none⟩ (.int .i64 ((apInc (fracs qs) rs.length (qs.map Rat.floor) t)[apAt (fracs qs) rs.length t]?.getD 0 + 1))).cell? ⟨bo, j, none⟩ = some (.int .i64 (apAt (fracs qs) rs.length j : Nat)) := by
                intro j hj
                rw [World.cell?_setCell_other _ _ _ _ (by intro e; simp only [Addr.mk.injEq] at e; omega)]
                exact hC.out j hj
              have HD1 := Lib.hid D1; have HD2 := Lib.hid D2
              clear D1 D2
              generalize (apInc (fracs qs) rs.length (qs.map Rat.floor) t)[apAt (fracs qs) rs.length t]?.getD 0 = v at *
              generalize apAt (fracs qs) rs.length t = p at *
              go_wp2_with fail
              go_roundw
              case rel => exact ⟨t + 1, by omega, HD1, HD2, hX.setCell (by simp only; omega) _, by go_num⟩
              case measure => simp [intOf] <;> omega
            · obtain rfl : t = M := by omega
              have hl := apInc_length (fracs qs) rs.length (qs.map Rat.floor) t
              rw [List.length_map, h.len] at hl
              have HL := Lib.hid hl; clear hl
              go_wp2_with fail
              go_ret2
              have hfin := HOUT.out
              rw [← HMM.out] at hfin
              rw [hfin]
              exact ⟨bw, by rw [HL.out]; rfl, o1, hA.out, hX⟩

end Go.Proofs.YtgihpfkjpfanmaaGreat

/- settlement.Apportion: its premises, in plain words. -/
namespace Go.Proofs.YtgihpfkjpfanmaaGreat
open Go.RowKit

theorem qsum_nil : qsum [] = 0 := rfl
theorem qsum_take_zero (l : List Rat) : qsum (l.take 0) = 0 := rfl

theorem sum_take {l : List Rat} {i : Nat} (h : i < l.length) : isum ((l.map Rat.floor).take (i + 1)) = isum ((l.map Rat.floor).take i) + l[i].floor := by
  rw [List.take_succ_eq_append_getElem (by simpa using h)]; unfold isum; simp

/-- The sum lies between the sum of the floors and that sum with 1 more for each number. -/
theorem sum_between (l : List Rat) : ∀ i, i ≤ l.length → ((isum ((l.map Rat.floor).take i) : Int) : Rat) ≤ qsum (l.take i) ∧ qsum (l.take i) ≤ ((isum ((l.map Rat.floor).take i) + i : Int) : Rat) := by
  intro i
  induction i with
  | zero =>
    intro _
    rw [qsum_take_zero]
    have : isum ((l.map Rat.floor).take 0) = 0 := rfl
    rw [this]
    exact ⟨by simp, by simp⟩
  | succ i ih =>
    intro hi
    obtain ⟨h1, h2⟩ := ih (by omega)
    rw [qsum_take (by omega), sum_take (by omega)]
    have h3 := Rat.floor_le l[i]
    have h4 := Rat.lt_floor_add_one l[i]
    generalize qsum (l.take i) = s at *
    generalize isum ((l.map Rat.floor).take i) = z at *
    generalize l[i] = q at *
    generalize q.floor = f at *
    constructor
    · rw [Rat.intCast_add]; grind
    · have e : ((z + f + ((i + 1 : Nat) : Int) : Int) : Rat) = ((z + (i : Int) : Int) : Rat) + ((f : Int) : Rat) + 1 := by
        push_cast; grind
      rw [e]; grind

theorem rsz_qsum (l : List Rat) (L : Nat) (h : ∀ i (hi : i < l.length), rsz l[i] ≤ L) : ∀ i, i ≤ l.length → rsz (qsum (l.take i)) ≤ i * (L + 1) + 1 := by
  intro i
  induction i with
  | zero => intro _; rw [qsum_take_zero, Nat.zero_mul, Nat.zero_add]; show rsz (((0 : Int) : Rat)) ≤ 1; rw [rsz_int]; decide
  | succ i ih =>
    intro hi
    rw [qsum_take (by omega)]
    have h1 := ih (by omega)
    have h2 := h i (by omega)
    have h3 := rsz_add (qsum (l.take i)) l[i]
    rw [Nat.succ_mul]; omega

/-- What Apportion makes of numbers whose sum is an integer. -/
def apOut (qs : List Rat) : List Int := apInc (fracs qs) qs.length (qs.map Rat.floor) ((qsum qs).floor - isum (qs.map Rat.floor)).toNat

theorem ap_main (w : World) (a : Option Addr) (c L : Nat) (rs : List RVal) (qs : List Rat) (h : Rats w a c rs qs L) (hn : rs.length ≤ 128) (h0 : 0 < rs.length) (hL : L < 100000) (hall : ∀ i (hi : i < rs.length), apOk (qs[i]'(by rw [h.len]; exact hi))) (hint : qsum qs = (((qsum qs).floor : Int) : Rat)) :
    Calls Tryz.prog 33 #[.slice a rs.length c] w (ApGood (apOut qs) w) := by
  have hb := sum_between qs qs.length (Nat.le_refl _)
  rw [List.take_of_length_le (by simp), List.take_length] at hb
  have hm0 : isum (qs.map Rat.floor) ≤ (qsum qs).floor := by rw [Rat.le_floor_iff]; exact hb.1
  have hm1 : (qsum qs).floor ≤ isum (qs.map Rat.floor) + rs.length := by
    rw [← h.len]
    have h2 := hb.2
    rw [hint] at h2
    exact Rat.intCast_le_intCast.1 h2
  have hib := isum_bound (qs.map Rat.floor) 281474976710656 (by
    intro x hx
    obtain ⟨q, hq, rfl⟩ := List.mem_map.1 hx
    obtain ⟨k, hk, rfl⟩ := List.getElem_of_mem hq
    exact apOk_floor (hall k (by rw [← h.len]; exact hk)))
  rw [List.length_map, h.len] at hib
  have hn' : (rs.length : Int) * 281474976710656 ≤ 128 * 281474976710656 := Int.mul_le_mul_of_nonneg_right (by omega) (by decide)
  have hsz : rsz (qsum qs) < 100000000 := by
    have h5 := rsz_qsum qs (L + 1) (fun i hi => by have := (h.num i (by rw [← h.len]; exact hi)).rsz; omega) qs.length (Nat.le_refl _)
    rw [List.take_length, h.len] at h5
    have := Nat.mul_le_mul hn (show L + 1 + 1 ≤ 100001 by omega)
    omega
  have := ap_good w a c L rs qs h hn hL hall (by omega) (by omega) hint h0 hm0 hm1 hsz
  rw [← h.len] at this ⊢
  exact this
end Go.Proofs.YtgihpfkjpfanmaaGreat
