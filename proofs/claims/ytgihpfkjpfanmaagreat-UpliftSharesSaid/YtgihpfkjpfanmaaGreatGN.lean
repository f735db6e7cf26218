/- Texts of the proof: Ev6, Ev7, Ev8, Ev9, Row. -/
import Derived.Test.YtgihpfkjpfanmaaGreatGM
import Derived.Test.YtgihpfkjpfanmaaGreatGH
import Derived.Test.YtgihpfkjpfanmaaGreatRows
import Derived.WalkKit
import Derived.ProofKit
import Derived.OpenShut
import Derived.ShutString
import Derived.ChangeOld
import Derived.Below
/- law41.awake. -/
namespace Go.Proofs.YtgihpfkjpfanmaaGreat
open Go.RowKit

theorem ones_rats (w : World) (a1 a2 a3 b1 b2 b3 : Option Addr) (c1 c2 c3 d1 d2 d3 b : Nat) (T : TypeId) (h1 : Raw w a1 (len 1) c1 1) (h2 : Raw w a2 (len 1) c2 1) (h3 : Raw w a3 (len 1) c3 1) (k1 : Raw w b1 (len 1) d1 1) (k2 : Raw w b2 (len 1) d2 1) (k3 : Raw w b3 (len 1) d3 1)
    (hA : Arr w b T [.bool false, .slice a1 (len 1) c1, .slice b1 (len 1) d1, .bool false, .slice a2 (len 1) c2, .slice b2 (len 1) d2, .bool false, .slice a3 (len 1) c3, .slice b3 (len 1) d3]) :
    Rats w (some ⟨b, 0, none⟩) 3 [⟨false, a1, len 1, c1, b1, len 1, d1⟩, ⟨false, a2, len 1, c2, b2, len 1, d2⟩, ⟨false, a3, len 1, c3, b3, len 1, d3⟩] [1, 1, 1] 2 := by
  have e : (1 : Rat) = mkRat (sgn false 1) 1 := by decide
  have l1 : len 1 ≤ 2 := by decide
  refine ⟨rfl, by simp, by decide, by simp, ?_, ?_⟩
  · intro i hi
    have hi' : i < 3 := hi
    rcases (show i = 0 ∨ i = 1 ∨ i = 2 by omega) with rfl | rfl | rfl <;> exact ⟨b, 0, rfl, hA.cell _, hA.cell _, hA.cell _⟩
  · intro i hi
    have hi' : i < 3 := hi
    rcases (show i = 0 ∨ i = 1 ∨ i = 2 by omega) with rfl | rfl | rfl
    · exact ⟨1, 1, h1, k1, e, l1, l1⟩
    · exact ⟨1, 1, h2, k2, e, l1, l1⟩
    · exact ⟨1, 1, h3, k3, e, l1, l1⟩

theorem arr_ints {w : World} {b : Nat} {T : TypeId} {l : List Int} (h : Arr w b T (i64s l)) : IntsAt w (some ⟨b, 0, none⟩) l :=
  ⟨b, 0, rfl, fun i hi => by rw [h.cell, Nat.zero_add]; exact i64s_get l i hi⟩

set_option maxHeartbeats 4000000 in
theorem law41_awake (w : World) : Calls Tryz.prog 47 #[] w fun e w' => e = .returned (.bool true) ∧ Ext w w' := by
  go_enter Tryz.func47, Tryz.ntmps47
  go_wp2_with fail
  refine (r3_FromInt _ 1 (by omega) (by omega)).mono ?_
  rintro e w1 ⟨a1, c1, b1, d1, rfl, hR1, hF1, hS1, hG1, hX1⟩
  go_wp2_with fail
  refine (r3_FromInt _ 1 (by omega) (by omega)).mono ?_
  rintro e w2 ⟨a2, c2, b2, d2, rfl, hR2, hF2, hS2, hG2, hX2⟩
  go_wp2_with fail
  refine (r3_FromInt _ 1 (by omega) (by omega)).mono ?_
  rintro e w3 ⟨a3, c3, b3, d3, rfl, hR3, hF3, hS3, hG3, hX3⟩
  go_wp2_with fail
  have hAl : Arr (w3.alloc (.cells #[.bool false, .slice a1 (len 1) c1, .slice b1 (len 1) d1, .bool false, .slice a2 (len 1) c2, .slice b2 (len 1) d2, .bool false, .slice a3 (len 1) c3, .slice b3 (len 1) d3] 55)) w3.heap.size 55 [.bool false, .slice a1 (len 1) c1, .slice b1 (len 1) d1, .bool false, .slice a2 (len 1) c2, .slice b2 (len 1) d2, .bool false, .slice a3 (len 1) c3, .slice b3 (len 1) d3] := by
    exact Arr.alloc _ _ _
  have x3 : Ext w3 (w3.alloc (.cells #[.bool false, .slice a1 (len 1) c1, .slice b1 (len 1) d1, .bool false, .slice a2 (len 1) c2, .slice b2 (len 1) d2, .bool false, .slice a3 (len 1) c3, .slice b3 (len 1) d3] 55)) := (Ext.refl w3).alloc _
  generalize hV : w3.alloc (.cells #[.bool false, .slice a1 (len 1) c1, .slice b1 (len 1) d1, .bool false, .slice a2 (len 1) c2, .slice b2 (len 1) d2, .bool false, .slice a3 (len 1) c3, .slice b3 (len 1) d3] 55) = V at *
  have hRs := ones_rats V a1 a2 a3 b1 b2 b3 c1 c2 c3 d1 d2 d3 _ _ (hR1.ext ((hX2.trans hX3).trans x3)) (hR2.ext (hX3.trans x3)) (hR3.ext x3) (hS1.ext ((hX2.trans hX3).trans x3)) (hS2.ext (hX3.trans x3)) (hS3.ext x3) hAl
  have hp : ∀ i (hi : i < ([1, 1, 1] : List Rat).length), 0 ≤ ([1, 1, 1] : List Rat)[i] := by
    intro i hi
    have hi' : i < 3 := hi
    rcases (show i = 0 ∨ i = 1 ∨ i = 2 by omega) with rfl | rfl | rfl <;> exact (show (0 : Rat) ≤ 1 by decide)
  have hne : ¬ qsum [1, 1, 1] = 0 := by rw [qsum_three]; grind
  refine (share_ok V 10 _ _ _ _ _ hRs (by simp) (by decide) (by decide) (by decide) (fun i hi => hp i hi) (by simp) hne).mono ?_
  rw [show apOut _ = _ from shOut_ten]
  rintro e w4 ⟨p4, rfl, hp4, hA4, hX4⟩
  go_wp2_with fail
  refine (share_ok w4 (-10) _ _ _ _ _ (hRs.ext hX4) (by simp) (by decide) (by decide) (by decide) (fun i hi => hp i hi) (by simp) hne).mono ?_
  rw [show apOut _ = _ from shOut_minus_ten]
  rintro e w5 ⟨p5, rfl, hp5, hA5, hX5⟩
  go_wp2_with fail
  have x5 := (Ext.refl w5).alloc (.cells #[.int .i64 4, .int .i64 3, .int .i64 3] 3)
  refine (r18_Ints_same _ _ _ _ _ [4, 3, 3] (arr_ints (hA4.ext (hX5.trans x5))) (arr_ints (Arr.alloc w5 3 (i64s [4, 3, 3]))) (by decide)).mono ?_
  rintro e w6 ⟨rfl, hX6⟩
  go_wp2_with fail
  have x6 := (Ext.refl w6).alloc (.cells #[.int .i64 (-3), .int .i64 (-3), .int .i64 (-4)] 3)
  refine (r18_Ints_same _ _ _ _ _ [-3, -3, -4] (arr_ints (hA5.ext ((x5.trans hX6).trans x6))) (arr_ints (Arr.alloc w6 3 (i64s [-3, -3, -4]))) (by decide)).mono ?_
  rintro e w7 ⟨rfl, hX7⟩
  go_wp2_with fail
  go_ret
  exact ⟨rfl, (((((((hX1.trans hX2).trans hX3).trans x3).trans hX4).trans hX5).trans x5).trans hX6).trans (x6.trans hX7)⟩

end Go.Proofs.YtgihpfkjpfanmaaGreat

/- append, with the block that the slice lies in afterwards. -/
namespace Go.Proofs.YtgihpfkjpfanmaaGreat
open Go.RowKit

section
variable {P : Program} (w : World)

theorem run_append_at (base : Nat) (t ty e : TypeId) (i : TypeInfo) (z : Value) (size bytes : Nat) (ht : P.underlying t = some (.slice e)) (hi : P.info? e = some i) (hz : i.zero = some z)
    (hsize : i.size = size) (hby : i.bytes = bytes) (hzs : z.cells.size = size) (hsz : 0 < size)
    (v : Value) (n : Nat) (xs : List Value) (hown : w.ownsRow base e size v n xs)
    (a : Addr) (m c : Nat) (news : List Value) (hl : news.length = m * size) (hnews : ∀ j u, news[j]? = some u → w.cell? (a.add j) = some u) (h1 : ∀ u ∈ news, u.oneCell' = true)
    (h63 : n + m ≤ maxLen) (hbytes : (n + m) * bytes ≤ 140737488355328) (hbase : base ≤ w.heap.size) :
    ∃ v' w', (Builtin.append_ #[t, t] ty #[v, .slice (some a) m c]).run P w = .ok v' w' ∧ w'.ownsRow base e size v' (n + m) (xs ++ news) ∧ w.grownBy w' v.ownBlock ∧ w.drawn ≤ w'.drawn ∧ (v'.ownBlock = v.ownBlock ∨ ∃ g, v'.ownBlock = some g ∧ w.heap.size ≤ g) := by
  obtain ⟨v', w', hr, h2, h3, _⟩ := run_append_own (P := P) w base t ty e i z size bytes ht hi hz hsize hby hzs hsz v n xs hown a m c news hl hnews h1 h63 hbytes hbase
  refine ⟨v', w', hr, h2, h3, ?_⟩
  subst hsize
  subst hby
  have hsmall : n + m ≤ 9223372036854775807 := by simp only [maxLen] at h63; omega
  rcases hown.2 with ⟨rfl, rfl⟩ | ⟨g, cap, cur, rfl, hbg, hg, hnc, hcm, hcs, htake⟩
  · have hx : xs = [] := List.eq_nil_of_length_eq_zero (by simpa using hown.1)
    subst hx
    by_cases hm : m = 0
    · subst hm
      have hn : news = [] := List.eq_nil_of_length_eq_zero (by simpa using hl)
      subst hn
      have hr' : (Builtin.append_ #[t, t] ty #[.slice none 0 0, .slice (some a) 0 c]).run P w = .ok (.slice none 0 0) w := by
        simp [Builtin.append_, run_underlying ht, sizeOf, typeInfo, hi, Builtin.lenOf, Builtin.firstCells, loadCells, loadCellsFrom]
      rw [hr'] at hr; cases hr; exact ⟨Nat.le_refl _, .inl rfl⟩
    · have hr' := run_append_nil (P := P) w t ty e i z ht hi hz a m c news hl hnews (by omega) (by omega) (by have hb := hbytes; simp only [Nat.zero_add] at hb; omega)
      rw [hr'] at hr; cases hr; exact ⟨Nat.le_succ _, .inr ⟨_, rfl, Nat.le_refl _⟩⟩
  · by_cases hroom : n + m ≤ cap
    · have hfit : n * i.size + news.length ≤ cur.size := by rw [hl, hcs, ← Nat.add_mul]; exact Nat.mul_le_mul_right _ hroom
      have hr' := run_append_room (P := P) w t ty e i ht hi g n cap cur hg a m c news hl hnews h1 hroom hfit
      rw [hr'] at hr; cases hr; exact ⟨Nat.le_refl _, .inl rfl⟩
    · have holds : ∀ j u, xs[j]? = some u → w.cell? ((⟨g, 0, none⟩ : Addr).add j) = some u := hown.cells (g := g) rfl
      have hr' := run_append_grow (P := P) w t ty e i z ht hi hz ⟨g, 0, none⟩ n cap xs hown.1 holds a m c news hl hnews (by omega) (by omega) (growslice_fits (by omega) hbytes)
      rw [hr'] at hr; cases hr; exact ⟨Nat.le_succ _, .inr ⟨_, rfl, Nat.le_refl _⟩⟩

/-- 'append(s, x...)' where s is nil or the call's own: what lay before the call's own blocks stays. -/
theorem wpList_append_at {ops : Array Oper} {rest : List Oper} {o : Oper} {a : Act} {Q : Exit → Act → World → Prop} (hgd : o.guard = none) (s x : Operand) (t : TypeId)
    (ho : o.op = .call { callee := .builtin .append, args := #[s, x], argTypes := #[t, t] })
    (base : Nat) (e : TypeId) (z : Value) (size bytes : Nat) (ht : P.underlying t = some (.slice e)) (hinfo : (P.info? e).map (fun i => (i.zero, i.size, i.bytes)) = some (some z, size, bytes)) (hzs : z.cells.size = size) (hsz : 0 < size)
    (v : Value) (n : Nat) (xs : List Value) (hs : a.eval s = v) (hown : w.ownsRow base e size v n xs)
    (xa : Option Addr) (m c : Nat) (news : List Value) (hx : a.eval x = .slice xa m c) (hl : news.length = m * size) (hnews : 0 < m → ∃ ad, xa = some ad ∧ ∀ j u, news[j]? = some u → w.cell? (ad.add j) = some u) (h1 : ∀ u ∈ news, u.oneCell' = true)
    (hnil : xa = none → m = 0 ∧ c = 0)
    (h63 : n + m ≤ 1200000000000) (hbytes : bytes ≤ 100) (hbase : base ≤ w.heap.size)
    (h : ∀ v' w', Hid (w'.ownsRow base e size v' (n + m) (xs ++ news)) → Hid (∀ a0, Ext a0 w → a0.heap.size ≤ base → Ext a0 w') → Hid (∀ k, k < w.heap.size → some k ≠ v.ownBlock → w'.heap[k]? = w.heap[k]?) → Hid (w.heap.size ≤ w'.heap.size) → Hid (v'.ownBlock = v.ownBlock ∨ ∃ g, v'.ownBlock = some g ∧ w.heap.size ≤ g) → wpList P ops Q rest (a.put o.dst v') w') : wpList P ops Q (o :: rest) a w := by
  obtain ⟨i, hi, hz, hsize, hby⟩ := info_parts hinfo
  have hlt := hown.lt
  have hb : (n + m) * bytes ≤ 140737488355328 := Nat.le_trans (Nat.mul_le_mul h63 hbytes) (by decide)
  have hm63 : n + m ≤ maxLen := by unfold maxLen; omega
  cases xa with
  | none =>
    obtain ⟨rfl, rfl⟩ := hnil rfl
    have hn : news = [] := List.eq_nil_of_length_eq_zero (by simpa using hl)
    subst hn
    refine wpList_append_own_none hgd s x t ho base e i size ht hi v n xs hs hown hx ?_
    exact h v w (Lib.hid (by simpa using hown)) (fun _ h _ => h) (fun _ _ _ => rfl) (Nat.le_refl _) (.inl rfl)
  | some ad =>
    have hnews' : ∀ j u, news[j]? = some u → w.cell? (ad.add j) = some u := by
      intro j u hu
      by_cases hm : 0 < m
      · obtain ⟨ad', e', hh⟩ := hnews hm; cases e'; exact hh j u hu
      · have : news = [] := List.eq_nil_of_length_eq_zero (by rw [hl]; have : m = 0 := by omega
                                                              simp [this])
        rw [this] at hu; simp at hu
    refine wpList_plain hgd fun K hK => ?_
    obtain ⟨v', w', hr, h2, h3, h4, h5⟩ := run_append_at (P := P) w base t o.type e i z size bytes ht hi hz hsize hby hzs hsz v n xs hown ad m c news hl hnews' h1 hm63 hb hbase
    unfold Oper.wp execOp
    simp only [ho, resolve, invoke, builtin, Sem.run_bind, Sem.run_pure, Result.andThen_ok, List.map_toArray, List.map_cons, List.map_nil, hs, hx, hr]
    refine hK _ _ (h v' w' h2 (fun a0 ha hb0 => ⟨ha.below.trans ⟨h3.os, h3.tape, h3.output, h3.size, fun k hk => h3.block k (by have := ha.size; omega) (fun e' => by have := hlt k e'.symm; omega)⟩, Nat.le_trans ha.drawn h4⟩) h3.block h3.size h5)
end


end Go.Proofs.YtgihpfkjpfanmaaGreat

/- UpliftEven: the weights as they are made. -/
namespace Go.Proofs.YtgihpfkjpfanmaaGreat
open Go.RowKit

/-- A slice of int that came in. -/
structure IntIn (w : World) (a : Option Addr) (c : Nat) (xs : List Int) : Prop where
  le : xs.length ≤ c
  cap : c ≤ 9223372036854775807
  cell : ∀ i (h : i < xs.length), ∃ b o, a = some ⟨b, o, none⟩ ∧ w.cell? ⟨b, o + i, none⟩ = some (.int .i64 xs[i])
  rng : ∀ i (h : i < xs.length), -9223372036854775808 ≤ xs[i] ∧ xs[i] < 9223372036854775808

theorem IntIn.ext {w w' : World} {a : Option Addr} {c : Nat} {xs : List Int} (h : IntIn w a c xs) (e : Ext w w') : IntIn w' a c xs :=
  ⟨h.le, h.cap, fun i hi => by obtain ⟨b, o, ha, hc⟩ := h.cell i hi; exact ⟨b, o, ha, cell_ext e hc⟩, h.rng⟩

def evQ (x : Int) : Rat := mkRat (modU x 7) 2

theorem modU_range (v n : Int) (hn : 0 < n) : 0 ≤ modU v n ∧ modU v n < n :=
  ⟨Int.emod_nonneg _ (by omega), Int.emod_lt_of_pos _ hn⟩

/-- The limbs of r do not lie in the block row. -/
def Off (r : RVal) (row : Option Nat) : Prop := (0 < r.k → ∀ x, r.a = some x → some x.block ≠ row) ∧ (0 < r.j → ∀ x, r.b = some x → some x.block ≠ row)

/-- A slice of rational numbers that the call itself makes by append: v lies in blocks from w.heap.size on. -/
structure RatRow (w wr : World) (v : Value) (rs : List RVal) (qs : List Rat) (L : Nat) : Prop where
  len : qs.length = rs.length
  own : wr.ownsRow w.heap.size 55 3 v rs.length (ratCells rs)
  num : ∀ k (hk : k < rs.length), IsRat wr rs[k] (qs[k]'(by omega)) L
  off : ∀ k (hk : k < rs.length), Off rs[k] v.ownBlock
  ext : Ext w wr

theorem ownsRow_ext {w w' : World} {base : Nat} {e : TypeId} {s : Nat} {v : Value} {n : Nat} {xs : List Value} (h : w.ownsRow base e s v n xs) (hX : Ext w w') : w'.ownsRow base e s v n xs := by
  obtain ⟨h1, h2⟩ := h
  refine ⟨h1, ?_⟩
  rcases h2 with h2 | ⟨g, cap, cur, hv, hb, hg, hr⟩
  · exact .inl h2
  · refine .inr ⟨g, cap, cur, hv, hb, ?_, hr⟩
    rw [hX.below.block g (Array.getElem?_eq_some_iff.1 hg).1]; exact hg

theorem RatRow.extend {w wr wr' : World} {v : Value} {rs : List RVal} {qs : List Rat} {L : Nat} (h : RatRow w wr v rs qs L) (e : Ext wr wr') : RatRow w wr' v rs qs L :=
  ⟨h.len, ownsRow_ext h.own e, fun k hk => (h.num k hk).ext e, h.off, h.ext.trans e⟩

theorem RatRow.start {w wr : World} (h : Ext w wr) (L : Nat) : RatRow w wr (.slice none 0 0) [] [] L :=
  ⟨rfl, ⟨rfl, .inl ⟨rfl, rfl⟩⟩, fun _k hk => absurd hk (Nat.not_lt_zero _), fun _k hk => absurd hk (Nat.not_lt_zero _), h⟩

theorem Raw.lt {w : World} {a : Option Addr} {k c n : Nat} (h : Raw w a k c n) (hk : 0 < k) : ∀ x, a = some x → x.block < w.heap.size := by
  intro x hx
  obtain ⟨l, e1, e2, e3⟩ := h
  obtain ⟨b', o, ha, hc⟩ := e3.cell 0 (by omega)
  have := block_lt hc
  rw [hx] at ha; cases ha
  exact this

/-- A number whose limbs do not lie in the block written stays. -/
theorem IsRat.keep {w w' : World} {r : RVal} {q : Rat} {L : Nat} {row : Option Nat} (h : IsRat w r q L) (hb : ∀ k, k < w.heap.size → some k ≠ row → w'.heap[k]? = w.heap[k]?) (ho : Off r row) : IsRat w' r q L := by
  have key : ∀ {a : Option Addr} {k c n : Nat}, Raw w a k c n → (0 < k → ∀ x, a = some x → some x.block ≠ row) → Raw w' a k c n := by
    intro a k c n hr ho
    obtain ⟨l, e1, e2, e3⟩ := hr
    refine ⟨l, e1, e2, e3.le, e3.cap, e3.short, e3.nul, e3.small, fun i hi => ?_⟩
    obtain ⟨b', o, ha, hc⟩ := e3.cell i hi
    refine ⟨b', o, ha, ?_⟩
    have hlt := block_lt hc
    unfold World.cell? at *
    rw [hb _ hlt (ho (by omega) ⟨b', o, none⟩ ha)]; exact hc
  obtain ⟨n, m, g1, g2, g3⟩ := h
  exact ⟨n, m, key g1 ho.1, key g2 ho.2, g3⟩

/-- The block that the slice lies in after an append. -/
theorem Off.next {w : World} {r : RVal} {q : Rat} {L : Nat} {v v' : Value} (ho : Off r v.ownBlock) (h : IsRat w r q L) (hv : v'.ownBlock = v.ownBlock ∨ ∃ g, v'.ownBlock = some g ∧ w.heap.size ≤ g) : Off r v'.ownBlock := by
  obtain ⟨n, m, g1, g2, g3⟩ := h
  rcases hv with hv | ⟨g, hg, hs⟩
  · rw [hv]; exact ho
  · rw [hg]
    constructor
    · intro hk x hx e; cases e; have := g1.lt hk x hx; omega
    · intro hk x hx e; cases e; have := g2.lt hk x hx; omega

theorem RatRow.snoc {w wr w' : World} {v v' : Value} {rs : List RVal} {qs : List Rat} {L : Nat} {r : RVal} {q : Rat} (h : RatRow w wr v rs qs L) (hr : IsRat wr r q L) (hro : Off r v.ownBlock)
    (ho : w'.ownsRow w.heap.size 55 3 v' (rs.length + 1) (ratCells rs ++ r.cells)) (hX : Ext w w') (hb : ∀ k, k < wr.heap.size → some k ≠ v.ownBlock → w'.heap[k]? = wr.heap[k]?)
    (hv : v'.ownBlock = v.ownBlock ∨ ∃ g, v'.ownBlock = some g ∧ wr.heap.size ≤ g) : RatRow w w' v' (rs ++ [r]) (qs ++ [q]) L := by
  have hl := h.len
  refine ⟨by simp [hl], by rw [ratCells_snoc, List.length_append]; exact ho, ?_, ?_, hX⟩
  · intro k hk
    rw [List.length_append, List.length_singleton] at hk
    by_cases hk' : k < rs.length
    · rw [List.getElem_append_left hk', List.getElem_append_left (by omega)]
      exact (h.num k hk').keep hb (h.off k hk')
    · obtain rfl : k = rs.length := by omega
      rw [List.getElem_append_right (Nat.le_refl _), List.getElem_append_right (by omega)]
      simp only [hl, Nat.sub_self, List.getElem_singleton]
      exact hr.keep hb hro
  · intro k hk
    rw [List.length_append, List.length_singleton] at hk
    by_cases hk' : k < rs.length
    · rw [List.getElem_append_left hk']
      exact (h.off k hk').next (h.num k hk') hv
    · obtain rfl : k = rs.length := by omega
      rw [List.getElem_append_right (Nat.le_refl _)]
      simp only [Nat.sub_self, List.getElem_singleton]
      exact hro.next hr hv

/-- What r3_Of returns does not lie in a block that was there before. -/
theorem off_fresh {w : World} {base : Nat} {e : TypeId} {s : Nat} {v : Value} {n : Nat} {ys : List Value} (h : w.ownsRow base e s v n ys) {r : RVal} (h1 : Fr w.heap.size r.a) (h2 : Fr w.heap.size r.b) : Off r v.ownBlock := by
  have hlt := h.lt
  constructor
  · intro _ x hx e
    have := hlt x.block e.symm
    have := h1 x hx
    omega
  · intro _ x hx e
    have := hlt x.block e.symm
    have := h2 x hx
    omega

/-- The whole list. -/
theorem RatRow.rats {w wr : World} {v : Value} {rs : List RVal} {qs : List Rat} {L : Nat} (h : RatRow w wr v rs qs L) (hs : rs.length ≤ 1000000) : ∃ a c, v = .slice a rs.length c ∧ Rats wr a c rs qs L := by
  obtain ⟨h1, h2⟩ := h.own
  have hl := h.len
  rcases h2 with ⟨rfl, h0⟩ | ⟨g, cap, cur, rfl, hb, hg, hn, hcap, hcs, htake⟩
  · refine ⟨none, 0, by rw [h0], hl, by omega, by omega, by omega, fun i hi => by omega, h.num⟩
  · refine ⟨some ⟨g, 0, none⟩, cap, rfl, hl, by omega, by unfold maxLen at hcap; omega, by omega, ?_, h.num⟩
    intro i hi
    have hc : ∀ k, k < 3 → wr.cell? ⟨g, 0 + i * 3 + k, none⟩ = (rs[i].cells)[k]? := by
      intro k hk
      have h3 : (cur.toList.take (rs.length * 3))[i * 3 + k]? = (ratCells rs)[i * 3 + k]? := by rw [htake]
      rw [ratCells_get rs i k hi hk, List.getElem?_take, if_pos (by omega)] at h3
      simp only [World.cell?, hg]
      rw [Nat.zero_add]
      simpa using h3
    exact ⟨g, 0, rfl, hc 0 (by omega), hc 1 (by omega), hc 2 (by omega)⟩

end Go.Proofs.YtgihpfkjpfanmaaGreat

/- UpliftEven: plain facts. -/
namespace Go.Proofs.YtgihpfkjpfanmaaGreat
open Go.RowKit

theorem evQ_two (x : Int) : 2 * evQ x = ((modU x 7 : Int) : Rat) := by
  unfold evQ
  rw [Rat.mkRat_eq_div]
  have : ((2 : Nat) : Rat) = 2 := rfl
  rw [this]; grind
/-- The sum of the doubled weights. -/
def evN (xs : List Int) : Int := isum (xs.map fun x => modU x 7)
theorem evQ_sum (xs : List Int) : 2 * qsum (xs.map evQ) = ((evN xs : Int) : Rat) := by
  unfold evN
  induction xs with
  | nil => simp [qsum, isum]
  | cons a l ih =>
    rw [List.map_cons, List.map_cons, qsum_cons, isum_cons, Rat.intCast_add, ← ih, ← evQ_two]; grind
theorem evQ_nonneg (x : Int) : 0 ≤ evQ x := by
  have h := evQ_two x
  have h1 : (0 : Rat) ≤ ((modU x 7 : Int) : Rat) := Rat.intCast_le_intCast.2 (show (0 : Int) ≤ _ from (modU_range x 7 (by omega)).1)
  grind
theorem evQ_zero {x : Int} (h : modU x 7 = 0) : evQ x = 0 := by
  have h1 := evQ_two x
  rw [h] at h1
  have : ((0 : Int) : Rat) = 0 := rfl
  grind
theorem evQ_eq {x y : Int} (h : modU x 7 = modU y 7) : evQ y = evQ x := by unfold evQ; rw [h]
theorem evQ_lt {x y : Int} (h : modU y 7 < modU x 7) : evQ y < evQ x := by
  have h1 := evQ_two x
  have h2 := evQ_two y
  have h3 := Rat.intCast_lt_intCast.2 h
  grind
theorem evN_zero {xs : List Int} : evN xs = 0 ↔ qsum (xs.map evQ) = 0 := by
  have h := evQ_sum xs
  constructor
  · intro e
    rw [e] at h
    have : ((0 : Int) : Rat) = 0 := rfl
    grind
  · intro e
    rw [e] at h
    have h2 : ((evN xs : Int) : Rat) = ((0 : Int) : Rat) := by
      have : ((0 : Int) : Rat) = 0 := rfl
      grind
    exact Rat.intCast_inj.1 h2
theorem evN_take (xs : List Int) (j : Nat) (h : j < xs.length) : evN (xs.take (j + 1)) = evN (xs.take j) + modU xs[j] 7 := by
  unfold evN isum
  rw [List.take_succ_eq_append_getElem h, List.map_append, List.sum_append]; simp
theorem evN_bound (xs : List Int) : 0 ≤ evN xs ∧ evN xs ≤ 7 * xs.length := by
  unfold evN
  induction xs with
  | nil => simp [isum]
  | cons a l ih =>
    have := modU_range a 7 (by omega)
    rw [List.map_cons, isum_cons, List.length_cons]; omega

/-- The parts are small. -/
theorem shOut_bound (T : Int) (qs : List Rat) (hT1 : -281474976710656 ≤ T) (hT2 : T ≤ 281474976710656) (hp : ∀ x ∈ qs, 0 ≤ x) (hS : ¬ qsum qs = 0) (i : Nat) (hi : i < qs.length) : -281474976710656 ≤ (shOut T qs)[i]?.getD 0 ∧ (shOut T qs)[i]?.getD 0 ≤ 281474976710657 := by
  have hok := part_ok T (qsum qs) qs[i] hT1 hT2 (hp _ (List.getElem_mem hi)) (le_qsum qs hp _ (List.getElem_mem hi)) hS
  have hf := apOk_floor hok
  have hl : i < (qs.map fun q => ((T : Int) : Rat) / qsum qs * q).length := by simpa using hi
  have hg := apOut_get (qs.map fun q => ((T : Int) : Rat) / qsum qs * q) T (parts_sum T qs hS) i hl
  unfold shOut
  rw [hg, List.getElem_map]
  split <;> omega

theorem isum_take_bound (l : List Int) (M : Int) (h0 : 0 ≤ M) (h : ∀ i, i < l.length → -M ≤ l[i]?.getD 0 ∧ l[i]?.getD 0 ≤ M) (j : Nat) (hj : j ≤ l.length) (hl : l.length ≤ 40) : -(40 * M) ≤ isum (l.take j) ∧ isum (l.take j) ≤ 40 * M := by
  have h1 := isum_bound (l.take j) M (by
    intro x hx
    obtain ⟨i, hi, rfl⟩ := List.getElem_of_mem hx
    rw [List.length_take] at hi
    have := h i (by omega)
    rw [List.getElem?_eq_getElem (by omega)] at this
    simpa using this)
  have h2 : ((l.take j).length : Int) * M ≤ 40 * M := Int.mul_le_mul_of_nonneg_right (by rw [List.length_take]; omega) h0
  omega
theorem isum_take_succ (l : List Int) (j : Nat) (h : j < l.length) : isum (l.take (j + 1)) = isum (l.take j) + l[j] := by
  unfold isum
  rw [List.take_succ_eq_append_getElem h, List.sum_append]; simp

end Go.Proofs.YtgihpfkjpfanmaaGreat

/- How the arguments of the statements come in: slices of int. -/
namespace Go.Proofs.YtgihpfkjpfanmaaGreat
open Go.ChangeShapes Go.WideShapes Go.ChangeAt Go.RowKit

theorem Tryz.own : ownKnob Tryz.prog.godebug = none := by kernel_rfl
theorem Tryz.laidOut : laidOutB Tryz.prog = true := by kernel_rfl

/-- A slice of integers that came in: it is nil; or it leads to a row of 'cap' cells. -/
def IsRow (k : IntKind) (w : World) (a : Option Addr) (len cap : Nat) (zs : List Int) : Prop :=
  (a = none ∧ len = 0 ∧ cap = 0 ∧ zs = []) ∨
  ∃ x, a = some x ∧ len ≤ cap ∧ cap ≤ maxLen ∧ zs.length = cap ∧ (∀ i, i < zs.length → w.cell? (x.add i) = some (.int k (zs.getD i 0))) ∧ ∀ n ∈ zs, (Lit.int k n).wf = true

theorem wf_i64 {n : Int} (h : (Lit.int .i64 n).wf = true) : -9223372036854775808 ≤ n ∧ n < 9223372036854775808 := by
  simp [Lit.wf, IntKind.min, IntKind.max, IntKind.signed, IntKind.bits] at h
  omega

theorem IsRow.intIn {w : World} {a : Option Addr} {len cap : Nat} {zs : List Int} (h : IsRow .i64 w a len cap zs) : (zs.take len).length = len ∧ IntIn w a cap (zs.take len) := by
  rcases h with ⟨rfl, rfl, rfl, rfl⟩ | ⟨x, rfl, h1, h2, h3, h4, h5⟩
  · exact ⟨rfl, ⟨Nat.le_refl _, by omega, fun i hi => absurd hi (Nat.not_lt_zero _), fun i hi => absurd hi (Nat.not_lt_zero _)⟩⟩
  · have hl : (zs.take len).length = len := by rw [List.length_take]; omega
    refine ⟨hl, ⟨by omega, by unfold maxLen at h2; omega, fun i hi => ?_, fun i hi => ?_⟩⟩
    · have hc := h4 i (by omega)
      obtain ⟨b, off, spot⟩ := x
      have hspot : spot = none := by simpa [Addr.add] using World.cell?_spot (h4 0 (by omega))
      subst hspot
      refine ⟨b, off, rfl, ?_⟩
      rw [show (Addr.add ⟨b, off, none⟩ i) = ⟨b, off + i, none⟩ from by unfold Addr.add; split <;> simp_all] at hc
      rw [hc, List.getElem_take]
      have hi' : i < zs.length := by omega
      simp [hi']
    · rw [List.getElem_take]
      exact wf_i64 (h5 _ (List.getElem_mem _))

end Go.Proofs.YtgihpfkjpfanmaaGreat
