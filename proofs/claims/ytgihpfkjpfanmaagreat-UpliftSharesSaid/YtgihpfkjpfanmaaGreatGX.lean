/- Texts of the proof: Hz, Sb10, Sb11. -/
import Derived.Deep.RegionHeld
import Derived.Test.YtgihpfkjpfanmaaGreatGW
/- A region that draws its order, and whose last operations write what the others read. -/
namespace Go.Proofs.YtgihpfkjpfanmaaGreat
open Go

section
variable {P : Program} {ops : Array Oper} {Q : Exit → Act → World → Prop} {md : Region.Mode} {S : World → Prop} {Z : Nat → Bool}

/-- Whatever order is picked; the condition S is shown behind each operation that is not in Z. -/
def wpAnyZ (P : Program) (md : Region.Mode) (ops : Array Oper) (Q : Exit → Act → World → Prop) (S : World → Prop) (Z : Nat → Bool) : Nat → Array Bool → Act → World → Prop
  | 0, ls, a, w => Region.ready md ops ls = [] ∧ Q .normal a w
  | n + 1, ls, a, w => (Region.ready md ops ls = [] → Q .normal a w) ∧
    ∀ i ∈ Region.ready md ops ls, wpOp P ops Q i (fun a' w' => (Z i = false → S w') ∧ wpAnyZ P md ops Q S Z n (ls.setIfInBounds i true) a' w') a w

theorem wpAny_of_Z : ∀ (n : Nat) (ls : Array Bool) (a : Act) (w : World), wpAnyZ P md ops Q S Z n ls a w → wpAny P md ops Q n ls a w
  | 0, _, _, _, h => h
  | n + 1, _, _, _, h => ⟨h.1, fun i hi => wpOp_mono (fun a' w' h' => wpAny_of_Z n _ a' w' h'.2) (h.2 i hi)⟩

/-- Every operation in Z waits for i. -/
def zWaits (md : Region.Mode) (ops : Array Oper) (Z : Nat → Bool) (i : Nat) : Bool :=
  (List.range ops.size).all fun j => !Z j || (match ops[j]? with | some o => o.after.toList.any (fun e => Region.binds md e && e.on == i) | none => true)

theorem zWaits_spec {i : Nat} (h : zWaits md ops Z i = true) : ∀ j oj, ops[j]? = some oj → Z j = true → ∃ e ∈ oj.after, Region.binds md e = true ∧ e.on = i := by
  intro j oj hj hz
  have hl : j < ops.size := (Array.getElem?_eq_some_iff.1 hj).1
  have h1 := List.all_eq_true.1 h j (List.mem_range.2 hl)
  rw [hz, hj] at h1
  simp only [Bool.not_true, Bool.false_or] at h1
  obtain ⟨e, he, h2⟩ := List.any_eq_true.1 h1
  simp only [Bool.and_eq_true, beq_iff_eq] at h2
  exact ⟨e, Array.mem_toList_iff.1 he, h2.1, h2.2⟩

theorem wpAnyZ_first {i : Nat} {oi : Oper} {v : Value} (hi : ops[i]? = some oi) (hsel : ∀ (j : Nat) (o : Oper) cs b, ops[j]? = some o → o.op ≠ .select cs b)
    (hQ : ∀ c a w, Q (.panic c) (a.put oi.dst v) w → Q (.panic c) a w) (hZ : ∀ j oj, ops[j]? = some oj → Z j = true → ∃ e ∈ oj.after, Region.binds md e = true ∧ e.on = i) :
    ∀ (n : Nat) (ls : Array Bool) (a : Act) (w : World),
      (∀ j oj, ops[j]? = some oj → j ≠ i → ls.getD j true = false → (∀ e ∈ oj.after, Region.binds md e = true → e.on ≠ i) → oi.apart ops oj = true) →
      i ∈ Region.ready md ops ls → YieldsIf P ops S oi v a → S w →
      wpAnyZ P md ops Q S Z n (ls.setIfInBounds i true) (a.put oi.dst v) w → wpAnyZ P md ops Q S Z (n + 1) ls a w := by
  intro n
  induction n with
  | zero =>
    intro ls a w _ hr hy hS H
    refine ⟨fun h => (by rw [h] at hr; cases hr), fun j hj => ?_⟩
    by_cases hji : j = i
    · subst hji; exact hy.wpOp hi hS ⟨fun _ => hS, H⟩
    · have := ready_mono hj hji
      rw [H.1] at this
      cases this
  | succ n ih =>
    intro ls a w hfree hr hy hS H
    refine ⟨fun h => (by rw [h] at hr; cases hr), fun j hj => ?_⟩
    by_cases hji : j = i
    · subst hji; exact hy.wpOp hi hS ⟨fun _ => hS, H⟩
    · have h1 := H.2 j (ready_mono hj hji)
      obtain ⟨hjun, oj, hoj, hall⟩ := mem_ready.1 hj
      have hnot : ∀ e ∈ oj.after, Region.binds md e = true → e.on ≠ i := fun e he hb heq => by
        have h1 := hall e he hb
        have h0 := (mem_ready.1 hr).1
        rw [heq] at h1
        rcases Nat.lt_or_ge i ls.size with h' | h'
        · simp [h'] at h0 h1; rw [h0] at h1; cases h1
        · simp [Array.getElem?_eq_none h'] at h1
      have hzj : Z j = false := by
        cases hz : Z j with
        | false => rfl
        | true =>
          obtain ⟨e, he, hb, heq⟩ := hZ j oj hoj hz
          exact absurd heq (hnot e he hb)
      have h2 := wpOp_putIf hoj (hfree j oj hoj hji hjun hnot) (fun cs b => hsel i oi cs b hi) (fun cs b => hsel j oj cs b hoj) hQ hy h1
      have hfree' : ∀ k ok, ops[k]? = some ok → k ≠ i → (ls.setIfInBounds j true).getD k true = false →
          (∀ e ∈ ok.after, Region.binds md e = true → e.on ≠ i) → oi.apart ops ok = true := fun k ok hk hki hun hno => by
        refine hfree k ok hk hki ?_ hno
        by_cases hjk : j = k
        · subst hjk; exact hjun
        · rw [getD_set_ne true hjk] at hun; exact hun
      refine wpOp_mono (fun a' w' h3 => ⟨h3.2.1, ih (ls.setIfInBounds j true) a' w' hfree' (ready_mono hr (Ne.symm hji)) h3.1 (h3.2.1 hzj) ?_⟩) h2
      rw [Array.setIfInBounds_comm _ _ hji]
      exact h3.2.2

/-- Operation i is taken first. -/
theorem wpAnyZ_take {i : Nat} {oi : Oper} {v : Value} {n : Nat} {ls : Array Bool} {a : Act} {w : World} (hi : ops[i]? = some oi)
    (hs : Region.noSelect ops = true) (hf : Region.free md ops ls i = true) (hr : (Region.ready md ops ls).contains i = true) (hz : zWaits md ops Z i = true)
    (hQ : ∀ c a w, Q (.panic c) (a.put oi.dst v) w → Q (.panic c) a w) (hy : YieldsIf P ops S oi v a) (hS : S w)
    (h : wpAnyZ P md ops Q S Z n (ls.setIfInBounds i true) (a.put oi.dst v) w) : wpAnyZ P md ops Q S Z (n + 1) ls a w :=
  wpAnyZ_first hi (Region.noSelect_spec hs) hQ (zWaits_spec hz) n ls a w (Region.free_spec hi hf) (by simpa using hr) hy hS h

def AllReadyZ (P : Program) (md : Region.Mode) (ops : Array Oper) (Q : Exit → Act → World → Prop) (S : World → Prop) (Z : Nat → Bool) (n : Nat) (ls : Array Bool) (a : Act) (w : World) (rs : List Nat) : Prop :=
  ∀ i ∈ rs, wpOp P ops Q i (fun a' w' => (Z i = false → S w') ∧ wpAnyZ P md ops Q S Z n (ls.setIfInBounds i true) a' w') a w
theorem AllReadyZ.nil {n : Nat} {ls : Array Bool} {a : Act} {w : World} : AllReadyZ P md ops Q S Z n ls a w [] := fun _ h => by cases h
/-- An operation comes up behind which S is shown. -/
theorem AllReadyZ.cons {n : Nat} {ls : Array Bool} {a : Act} {w : World} {i : Nat} {o : Oper} {rs : List Nat} (ho : ops[i]? = some o)
    (h : ∀ K' : Act → World → Prop, Shut (∀ a w, S w → (S w → wpAnyZ P md ops Q S Z n (ls.setIfInBounds i true) a w) → K' a w) → if Region.wanted o (yielded ops a.tmps) = true then Oper.wp P o a w K' Q else K' (a.put o.dst undef) w)
    (hs : AllReadyZ P md ops Q S Z n ls a w rs) : AllReadyZ P md ops Q S Z n ls a w (i :: rs) := fun j hj => by
  rcases List.mem_cons.1 hj with rfl | hj
  · exact wpOp_step ho (fun K' hK => h K' (fun a w hS hW => hK a w ⟨fun _ => hS, hW hS⟩))
  · exact hs j hj
/-- A last operation comes up: it may write what the others read. -/
theorem AllReadyZ.last {n : Nat} {ls : Array Bool} {a : Act} {w : World} {i : Nat} {o : Oper} {rs : List Nat} (ho : ops[i]? = some o) (hz : Z i = true)
    (h : ∀ K' : Act → World → Prop, Shut (∀ a w, wpAnyZ P md ops Q S Z n (ls.setIfInBounds i true) a w → K' a w) → if Region.wanted o (yielded ops a.tmps) = true then Oper.wp P o a w K' Q else K' (a.put o.dst undef) w)
    (hs : AllReadyZ P md ops Q S Z n ls a w rs) : AllReadyZ P md ops Q S Z n ls a w (i :: rs) := fun j hj => by
  rcases List.mem_cons.1 hj with rfl | hj
  · exact wpOp_step ho (fun K' hK => h K' (fun a w hW => hK a w ⟨fun e => absurd (hz.symm.trans e) (by decide), hW⟩))
  · exact hs j hj
theorem wpAnyZ_ready {rs : List Nat} {n : Nat} {ls : Array Bool} {a : Act} {w : World} (hr : Region.ready md ops ls = rs) (hne : rs ≠ [])
    (h : AllReadyZ P md ops Q S Z n ls a w rs) : wpAnyZ P md ops Q S Z (n + 1) ls a w := ⟨fun h0 => absurd (hr ▸ h0) hne, hr ▸ h⟩
theorem wpAnyZ_done {ls : Array Bool} {a : Act} {w : World} (hr : Region.ready md ops ls = []) (h : Q .normal a w) : ∀ n, wpAnyZ P md ops Q S Z n ls a w
  | 0 => ⟨hr, h⟩
  | _ + 1 => ⟨fun _ => h, by rw [hr]; simp⟩
/-- The beginning. -/
theorem wp_region_Z {id : Nat} {a : Act} {w : World} (Z : Nat → Bool) (hm : P.follows .mixedOrders = true) (hS : S w.drew)
    (h : S w.drew → wpAnyZ P .any ops Q S Z ops.size (Array.replicate ops.size false) a w.drew) : (Code.region id ops true).wp P Q a w :=
  wp_region_any hm (wpAny_of_Z _ _ _ _ (h hS))
end

end Go.Proofs.YtgihpfkjpfanmaaGreat

/- A number stored into a row of the call's own. -/
namespace Go.Proofs.YtgihpfkjpfanmaaGreat
open Go.RowKit

theorem ratCells_cons (x : RVal) (l : List RVal) : ratCells (x :: l) = .bool x.s :: .slice x.a x.k x.c :: .slice x.b x.j x.d :: ratCells l := rfl

theorem ratCells_put (rs : List RVal) (j : Nat) (r : RVal) : ratCells (rs.set j r) = (((ratCells rs).set (j * 3) (.bool r.s)).set (j * 3 + 1) (.slice r.a r.k r.c)).set (j * 3 + 2) (.slice r.b r.j r.d) := by
  induction rs generalizing j with
  | nil => simp [ratCells]
  | cons x l ih =>
    cases j with
    | zero => simp [ratCells_cons]
    | succ j =>
      rw [List.set_cons_succ, ratCells_cons, ih, ratCells_cons, show (j + 1) * 3 = j * 3 + 3 by omega]
      simp [List.set_cons_succ]

/-- The world after a number is stored. -/
def putRat (w : World) (g j : Nat) (r : RVal) : World := ((w.setCell ⟨g, j * 3, none⟩ (.bool r.s)).setCell ⟨g, j * 3 + 1, none⟩ (.slice r.a r.k r.c)).setCell ⟨g, j * 3 + 2, none⟩ (.slice r.b r.j r.d)

theorem putRat_other (w : World) (g j : Nat) (r : RVal) (k : Nat) (hk : k ≠ g) : (putRat w g j r).heap[k]? = w.heap[k]? := by
  unfold putRat
  rw [Below.heap_setCell _ _ _ _ (by simpa using hk), Below.heap_setCell _ _ _ _ (by simpa using hk), Below.heap_setCell _ _ _ _ (by simpa using hk)]
theorem putRat_ext {w0 w : World} {g : Nat} (h : Ext w0 w) (hg : w0.heap.size ≤ g) (j : Nat) (r : RVal) : Ext w0 (putRat w g j r) :=
  ((h.setCell (p := ⟨g, j * 3, none⟩) hg _).setCell (p := ⟨g, j * 3 + 1, none⟩) hg _).setCell (p := ⟨g, j * 3 + 2, none⟩) hg _

theorem RatRow.put {w wr : World} {g n cap : Nat} {rs : List RVal} {qs : List Rat} {L : Nat} (h : RatRow w wr (.slice (some ⟨g, 0, none⟩) n cap) rs qs L) (j : Nat) {r : RVal} {q : Rat} (hr : IsRat wr r q L) (ho : Off r (some g)) :
    RatRow w (putRat wr g j r) (.slice (some ⟨g, 0, none⟩) n cap) (rs.set j r) (qs.set j q) L := by
  obtain ⟨h1, h2⟩ := h.own
  have hl := h.len
  rcases h2 with ⟨h2, _⟩ | ⟨g', cap', cur, hv, hb, hg, hn, hcap, hcs, htake⟩
  · cases h2
  · cases hv
    have hA : Arr wr g 55 cur.toList := by unfold Arr; simpa using hg
    have hA' : Arr (putRat wr g j r) g 55 (((cur.toList.set (j * 3) (.bool r.s)).set (j * 3 + 1) (.slice r.a r.k r.c)).set (j * 3 + 2) (.slice r.b r.j r.d)) := ((hA.set _ _).set _ _).set _ _
    have hkeep : ∀ k, k < wr.heap.size → some k ≠ some g → (putRat wr g j r).heap[k]? = wr.heap[k]? := fun k _ hne => putRat_other wr g j r k (fun e => hne (by rw [e]))
    refine ⟨by simp [hl], ⟨by rw [ratCells_length], .inr ⟨g, cap, _, by rw [List.length_set], hb, hA', by rw [List.length_set]; exact hn, hcap, by simpa using hcs, ?_⟩⟩, ?_, ?_, putRat_ext h.ext hb j r⟩
    · rw [ratCells_put, List.length_set, ← htake]
      simp [List.take_set]
    · intro k hk
      rw [List.length_set] at hk
      by_cases hkj : j = k
      · subst hkj
        rw [List.getElem_set_self, List.getElem_set_self]
        exact hr.keep hkeep ho
      · rw [List.getElem_set_ne hkj, List.getElem_set_ne hkj]
        exact (h.num k hk).keep hkeep (h.off k hk)
    · intro k hk
      rw [List.length_set] at hk
      by_cases hkj : j = k
      · subst hkj
        rw [List.getElem_set_self]; exact ho
      · rw [List.getElem_set_ne hkj]; exact h.off k hk

end Go.Proofs.YtgihpfkjpfanmaaGreat

/- UpliftShares: the walk. -/
namespace Go.Proofs.YtgihpfkjpfanmaaGreat
open Go.RowKit

open Classical in
noncomputable def shN (T : Int) (qs : List Rat) : Nat := if shE T qs = 0 then (shOut T qs).length else 0

theorem ShRes.val {T : Int} {qs : List Rat} {w w' : World} {e : Ending} (h : ShRes T qs w e w') : ∃ pa pc, e = .returned (.tuple #[.slice pa (shN T qs) pc, .int .i64 (shE T qs)]) ∧ (shN T qs = 0 ∨ (shN T qs = (shOut T qs).length ∧ IntsAt w' pa (shOut T qs))) ∧ Ext w w' := by
  rcases h with ⟨h0, b, he, _, hA, hx⟩ | ⟨h0, he, hx⟩
  · have hn : shN T qs = (shOut T qs).length := by unfold shN; rw [if_pos h0]
    refine ⟨some ⟨b, 0, none⟩, (shOut T qs).length, ?_, Or.inr ⟨hn, arr_ints hA⟩, hx⟩
    rw [he, hn, h0]
  · have hn : shN T qs = 0 := by unfold shN; rw [if_neg h0]
    refine ⟨none, 0, ?_, Or.inl hn, hx⟩
    rw [he, hn]
theorem shN_le (T : Int) (qs : List Rat) : shN T qs ≤ qs.length := by
  unfold shN; split
  · unfold shOut; rw [apOut_length]; simp
  · exact Nat.zero_le _

def mabs (q : Rat) : Rat := maxQ q (-q)
theorem rsz_mabs (q : Rat) : rsz (mabs q) = rsz q := by
  unfold mabs maxQ
  split
  · rfl
  · rw [rsz_neg]

/-- The weights at the head of the loop. -/
def absTo (qs : List Rat) (j : Nat) : List Rat := (qs.take j).map mabs ++ qs.drop j
theorem absTo_length (qs : List Rat) (j : Nat) : (absTo qs j).length = qs.length := by unfold absTo; simp; omega
theorem absTo_get (qs : List Rat) (j : Nat) (h : j < qs.length) : (absTo qs j)[j]'(by rw [absTo_length]; exact h) = qs[j] := by
  unfold absTo
  rw [List.getElem_append_right (by simp; omega)]
  simp; congr 1; omega
theorem absTo_set (qs : List Rat) (j : Nat) (h : j < qs.length) : (absTo qs j).set j (mabs qs[j]) = absTo qs (j + 1) := by
  unfold absTo
  have hl : ((qs.take j).map mabs).length = j := by simp; omega
  rw [List.set_append_right _ _ (by omega), hl, Nat.sub_self, List.drop_eq_getElem_cons h, List.set_cons_zero, List.take_succ_eq_append_getElem h, List.map_append, List.append_assoc]
  rfl

set_option maxHeartbeats 4000000 in
set_option maxRecDepth 100000 in
theorem law41_shares_far (w : World) (T : Int) (a : Option Addr) (c : Nat) (rs : List RVal) (h : RatsIn w a c rs) (hr : IsRaw rs) :
    Calls Tryz.prog 9 #[.int .i64 T, .slice a rs.length c, .bool false] w fun e w' => e = .returned (.bool true) ∧ Ext w w' := by
  obtain ⟨qs, hR, hS⟩ := h.rats hr
  have hn := hr.1
  have HRaw := Lib.hid (stage_Raw_yes w a c rs h hr)
  clear h hr
  go_enter Tryz.func9, Tryz.ntmps9
  go_wp2_with fail
  refine HRaw.out.mono ?_
  rintro e w' ⟨rfl, rfl⟩
  clear HRaw
  have hA : ∀ V, Ext w V → Calls Tryz.prog 45 #[.int .i64 T, .slice a rs.length c] V (fun e w' => ∃ pa pc, e = .returned (.tuple #[.slice pa (shN T qs) pc, .int .i64 (shE T qs)]) ∧ (shN T qs = 0 ∨ (shN T qs = (shOut T qs).length ∧ IntsAt w' pa (shOut T qs))) ∧ Ext V w') := fun V hV => (share_all V T a c 4 rs qs (hR.ext hV) (by omega)).mono (fun _ _ hh => ShRes.val hh)
  have hB : ∀ V, Ext w V → Calls Tryz.prog 46 #[.int .i64 T, .slice a rs.length c] V (fun e w' => ∃ pa pc, e = .returned (.tuple #[.slice pa (shN T qs) pc, .int .i64 (shE T qs)]) ∧ (shN T qs = 0 ∨ (shN T qs = (shOut T qs).length ∧ IntsAt w' pa (shOut T qs))) ∧ Ext V w') := fun V hV => (r40_share_all V T a c 4 rs qs (hR.ext hV) (by omega) (hS.mono (by omega)) hn).mono (fun _ _ hh => ShRes.val hh)
  have hI := fun V pa pc pa' pc' h1 h2 => ints_val V pa pa' (shN T qs) pc pc' (shOut T qs) h1 h2 (by have := shN_le T qs; have := hR.len; omega)
  generalize shE T qs = E at hA hB
  generalize shN T qs = N at hA hB hI
  generalize shOut T qs = out at hA hB hI
  have HA := Lib.hid hA; have HB := Lib.hid hB; have HI := Lib.hid hI
  have hle := hR.le
  have hcap := hR.cap
  clear hA hB hI hR hS
  go_wp2_with fail
  refine (HA.out _ (Ext.refl _)).mono ?_
  rintro e w1 ⟨pa, pc, rfl, hi1, x1⟩
  go_wp2_with fail
  refine (HB.out _ x1).mono ?_
  rintro e w2 ⟨pb, pd, rfl, hi2, x2⟩
  go_wp2_with fail
  refine (law41_awake _).mono ?_
  rintro e w3 ⟨rfl, x3⟩
  have hi1' : N = 0 ∨ (N = out.length ∧ IntsAt w3 pa out) := hi1.imp id (fun hh => ⟨hh.1, hh.2.ext (x2.trans x3)⟩)
  have hi2' : N = 0 ∨ (N = out.length ∧ IntsAt w3 pb out) := hi2.imp id (fun hh => ⟨hh.1, hh.2.ext x3⟩)
  have HI1 := Lib.hid hi1'; have HI2 := Lib.hid hi2'
  clear hi1 hi2 hi1' hi2'
  go_wp2_with fail
  refine (HI.out _ _ _ _ _ HI1.out HI2.out).mono ?_
  rintro e w4 ⟨rfl, x4⟩
  go_wp2_with fail
  go_ret
  exact ⟨rfl, ((x1.trans x2).trans x3).trans x4⟩

set_option maxHeartbeats 4000000 in
set_option maxRecDepth 100000 in
theorem law41_shares_near (w : World) (T0 : Int) (a0 : Option Addr) (c0 : Nat) (rs0 : List RVal) (h : RatsIn w a0 c0 rs0) (hr : IsRaw rs0) :
    Calls Tryz.prog 9 #[.int .i64 T0, .slice a0 rs0.length c0, .bool true] w fun e w' => e = .returned (.bool true) ∧ Ext w w' := by
  obtain ⟨qs0, hR0, hS0⟩ := h.rats hr
  have hn0 := hr.1
  have HRaw := Lib.hid (stage_Raw_yes w a0 c0 rs0 h hr)
  have HNUL := Lib.hid h.nul
  have hle0 := hR0.le
  have HR0 := Lib.hid hR0
  have HS0 := Lib.hid hS0
  clear h hr hR0 hS0
  go_enter Tryz.func9, Tryz.ntmps9
  go_wp2_with fail
  refine HRaw.out.mono ?_
  rintro e w' ⟨rfl, rfl⟩
  clear HRaw
  go_upto_region 5 with fail
  have xa : Ext w (w.alloc (.cells #[] 55)) := (Ext.refl _).alloc _
  go_wp2_with (at_builtin; refine wpList_append_at _ rfl (.tmp 18) (.tmp 19) 48 rfl w.heap.size 55 (.agg zero3.toArray) 3 56 Tryz.underlying48 Tryz.info_rat rfl (by decide) (.slice (some ⟨w.heap.size, 0, none⟩) 0 0) 0 [] rfl ?c1 a0 rs0.length c0 (ratCells rs0) rfl ?c2 ?c3 ?c4 ?c5 ?c6 (by decide) ?c7 ?_; rotate_right; intro v1 w5 ho he hb hz hv)
  case c1 => exact ownsRow_literal w
  case c2 => exact ratCells_length rs0
  case c3 =>
    intro h0
    obtain ⟨ad, ha, hh⟩ := HR0.out.src h0
    exact ⟨ad, ha, fun j u hu => cell_ext xa (hh j u hu)⟩
  case c4 => exact ratCells_one rs0
  case c5 =>
    intro e
    have := HNUL.out e
    omega
  case c6 => omega
  case c7 => simp
  have x5 : Ext w w5 := he.out w xa (Nat.le_refl _)
  have ho' := ho.out
  rw [Nat.zero_add, List.nil_append] at ho'
  have hrow := RatRow.copy HR0.out ho' x5 (hv.out.imp id (fun ⟨g, h1, h2⟩ => ⟨g, h1, by simpa using h2⟩))
  obtain ⟨p, cap, rfl, hcm⟩ := ownsRow_slice ho'
  unfold maxLen at hcm
  have HROW := Lib.hid hrow
  clear ho he hb hz hv ho' hrow x5 xa HNUL
  go_loopw [7] (fun ii wr => ∃ j : Nat, j ≤ rs0.length ∧ (∃ prs : List RVal, prs.length = rs0.length ∧ RShort prs 4 ∧ RatRow w wr (.slice p rs0.length cap) prs (absTo qs0 j) 4) ∧ ii = .int .i64 j) (fun ii _ => rs0.length - (intOf ii).toNat)
  case atStart => exact ⟨0, Nat.zero_le _, ⟨rs0, rfl, HS0.out, by simpa [absTo] using HROW.out⟩, rfl⟩
  case round =>
    obtain ⟨j, hj, ⟨prs, hpl, hps, hrow⟩, rfl⟩ := hrel
    by_cases hlt : j < rs0.length
    · have hql : (absTo qs0 j).length = prs.length := hrow.len
      have hjq : j < qs0.length := by rw [absTo_length] at hql; omega
      have hjp : j < prs.length := by omega
      obtain ⟨g, rfl⟩ : ∃ g, p = some ⟨g, 0, none⟩ := by
        rcases hrow.own.2 with ⟨h2, _⟩ | ⟨g, cap', cur, hv, _⟩
        · simp only [Value.slice.injEq] at h2; omega
        · simp only [Value.slice.injEq] at hv; exact ⟨g, hv.1⟩
      obtain ⟨a', c', e', hR⟩ := hrow.rats (by omega)
      simp only [Value.slice.injEq] at e'
      obtain ⟨rfl, -, rfl⟩ := e'
      have hwg : w.heap.size ≤ g ∧ g < wr.heap.size := by
        rcases hrow.own.2 with ⟨h2, _⟩ | ⟨g', cap', cur, hv, hb, hg, _⟩
        · simp only [Value.slice.injEq] at h2; omega
        · simp only [Value.slice.injEq, Option.some.injEq, Addr.mk.injEq] at hv; obtain ⟨⟨rfl, -⟩, -⟩ := hv; exact ⟨hb, (Array.getElem?_eq_some_iff.1 hg).1⟩
      obtain ⟨b', o', e', k0, k1, k2⟩ := hR.cell j hjp
      cases e'
      obtain ⟨n2, m2, g1, g2, gq, gl1, gl2⟩ := hR.num j hjp
      rw [absTo_get qs0 j hjq] at gq
      obtain ⟨ks1, ks2⟩ := hps j hjp
      have hqz : rsz qs0[j] ≤ 4 := by have := (hR.num j hjp).rsz; rw [absTo_get qs0 j hjq] at this; omega
      have hNg := fun V (hV : Ext wr V) => r3_Neg V prs[j].s _ _ _ _ _ _ _ _ (g1.ext hV) (g2.ext hV) (by omega) (by omega)
      rw [← gq] at hNg
      have hMx : ∀ V, Ext wr V → ∀ (r : RVal) (B : Nat), IsCan V r (-qs0[j]) B → Calls Tryz.prog 44 #[.agg #[.bool prs[j].s, .slice prs[j].a prs[j].k prs[j].c, .slice prs[j].b prs[j].j prs[j].d], .agg #[.bool r.s, .slice r.a r.k r.c, .slice r.b r.j r.d]] V (NewRat (mabs qs0[j]) V) := by
        intro V hV r B hr
        have hs := hr.short (L := 4) (by rw [rsz_neg]; exact hqz)
        have h5 := r3_Max V prs[j].s _ _ _ _ _ _ _ _ (g1.ext hV) (g2.ext hV) r.s _ _ _ _ _ _ _ _ hr.num hr.den (by omega) (by omega) (by omega) (by omega)
        rw [← gq, hr.s, sgn_num, Rat.mkRat_self] at h5
        rw [hr.s]
        exact h5
      have hzz : rsz (mabs qs0[j]) ≤ 4 := by rw [rsz_mabs]; exact hqz
      have hstep : ∀ (W : World) (r : RVal) (B : Nat), Ext wr W → wr.heap.size ≤ B → IsCan W r (mabs qs0[j]) B → ∃ prs' : List RVal, prs'.length = rs0.length ∧ RShort prs' 4 ∧ RatRow w (putRat W g j r) (.slice (some ⟨g, 0, none⟩) rs0.length cap) prs' (absTo qs0 (j + 1)) 4 := by
        intro W r B hW hB hr
        have hoff : Off r (some g) := by
          constructor
          · intro _ x hx e; cases e; have := hr.fa x hx; omega
          · intro _ x hx e; cases e; have := hr.fb x hx; omega
        have hp := (hrow.extend hW).put j (hr.isRat.mono hzz) hoff
        rw [absTo_set qs0 j hjq] at hp
        refine ⟨prs.set j r, by rw [List.length_set, hpl], ?_, hp⟩
        intro k hk
        rw [List.length_set] at hk
        have hsr := hr.short hzz
        by_cases hkj : j = k
        · subst hkj; rw [List.getElem_set_self]; exact hsr
        · rw [List.getElem_set_ne hkj]; exact hps k hk
      have fz : ∀ i, wr.frozen? ⟨g, i, none⟩ = false := by
        rcases hrow.own.2 with ⟨h2, _⟩ | ⟨g', cap', cur, hv, hb, hg, _⟩
        · simp only [Value.slice.injEq] at h2; omega
        · simp only [Value.slice.injEq, Option.some.injEq, Addr.mk.injEq] at hv; obtain ⟨⟨rfl, -⟩, -⟩ := hv; intro i; simp [World.frozen?, hg]
      clear gq g1 g2 hR hrow
      rw [Nat.zero_add] at k0 k1 k2
      generalize prs[j] = y at *
      have HNg := Lib.hid hNg; have HMx := Lib.hid hMx; have HSt := Lib.hid hstep
      have f0 := fz (j * 3)
      have f1 := fz (j * 3 + 1)
      have f2 := fz (j * 3 + 2)
      have hKK : ∀ w', Ext wr w' → w'.cell? ⟨g, j * 3, none⟩ = some (.bool y.s) ∧ w'.cell? ⟨g, j * 3 + 1, none⟩ = some (.slice y.a y.k y.c) ∧ w'.cell? ⟨g, j * 3 + 2, none⟩ = some (.slice y.b y.j y.d) ∧ w'.frozen? ⟨g, j * 3, none⟩ = false ∧ w'.frozen? ⟨g, j * 3 + 1, none⟩ = false ∧ w'.frozen? ⟨g, j * 3 + 2, none⟩ = false := fun V hV => ⟨cell_ext hV k0, cell_ext hV k1, cell_ext hV k2, froz_ext hV k0 f0, froz_ext hV k1 f1, froz_ext hV k2 f2⟩
      have HKK := Lib.hid hKK
      have v0 : Ext wr wr.drew := (Ext.refl _).drew
      clear hKK fz f0 f1 f2 k0 k1 k2
      have bj0 : (0 : Int) ≤ (j : Int) := by omega
      have bj1 : (j : Int) < (rs0.length : Int) := by omega
      clear hNg hMx hstep
      go_wp2_with fail
      refine wp_region_Z (S := fun w' => w'.cell? ⟨g, j * 3, none⟩ = some (.bool y.s) ∧ w'.cell? ⟨g, j * 3 + 1, none⟩ = some (.slice y.a y.k y.c) ∧ w'.cell? ⟨g, j * 3 + 2, none⟩ = some (.slice y.b y.j y.d) ∧ w'.frozen? ⟨g, j * 3, none⟩ = false ∧ w'.frozen? ⟨g, j * 3 + 1, none⟩ = false ∧ w'.frozen? ⟨g, j * 3 + 2, none⟩ = false) (fun i => i == 13) (by kernel_rfl) (HKK.out _ v0) (fun hHeld => ?_)
      refine wpAnyZ_take (i := 0) (v := .slice (some ⟨g, 0, none⟩) rs0.length cap) rfl (by kernel_rfl) (by kernel_rfl) (by kernel_rfl) (by kernel_rfl) (fun _ _ _ h => h) (Or.inl ⟨by rfl, fun w hSw => by (obtain ⟨e0, e1, e2, e3, e4, e5⟩ := hSw; go_simp)⟩) hHeld ?_
      try simp only [List.getElem_toArray, List.getElem_cons_zero, Act.put, List.setIfInBounds_toArray, List.set_cons_zero, List.set_cons_succ]
      refine wpAnyZ_take (i := 1) (v := .int .i64 (j : Int)) rfl (by kernel_rfl) (by kernel_rfl) (by kernel_rfl) (by kernel_rfl) (fun _ _ _ h => h) (Or.inl ⟨by rfl, fun w hSw => by (obtain ⟨e0, e1, e2, e3, e4, e5⟩ := hSw; go_simp)⟩) hHeld ?_
      try simp only [List.getElem_toArray, List.getElem_cons_succ, List.getElem_cons_zero, Act.put, List.setIfInBounds_toArray, List.set_cons_zero, List.set_cons_succ]
      refine wpAnyZ_take (i := 2) (v := .slice (some ⟨g, 0, none⟩) rs0.length cap) rfl (by kernel_rfl) (by kernel_rfl) (by kernel_rfl) (by kernel_rfl) (fun _ _ _ h => h) (Or.inl ⟨by rfl, fun w hSw => by (obtain ⟨e0, e1, e2, e3, e4, e5⟩ := hSw; go_simp)⟩) hHeld ?_
      try simp only [List.getElem_toArray, List.getElem_cons_succ, List.getElem_cons_zero, Act.put, List.setIfInBounds_toArray, List.set_cons_zero, List.set_cons_succ]
      refine wpAnyZ_take (i := 3) (v := .int .i64 (j : Int)) rfl (by kernel_rfl) (by kernel_rfl) (by kernel_rfl) (by kernel_rfl) (fun _ _ _ h => h) (Or.inl ⟨by rfl, fun w hSw => by (obtain ⟨e0, e1, e2, e3, e4, e5⟩ := hSw; go_simp)⟩) hHeld ?_
      try simp only [List.getElem_toArray, List.getElem_cons_succ, List.getElem_cons_zero, Act.put, List.setIfInBounds_toArray, List.set_cons_zero, List.set_cons_succ]
      refine wpAnyZ_take (i := 4) (v := .pointer (some ⟨g, j * 3, none⟩)) rfl (by kernel_rfl) (by kernel_rfl) (by kernel_rfl) (by kernel_rfl) (fun _ _ _ h => h) (Or.inl ⟨by rfl, fun w hSw => by (obtain ⟨e0, e1, e2, e3, e4, e5⟩ := hSw; go_simp)⟩) hHeld ?_
      try simp only [List.getElem_toArray, List.getElem_cons_succ, List.getElem_cons_zero, Act.put, List.setIfInBounds_toArray, List.set_cons_zero, List.set_cons_succ]
      refine wpAnyZ_take (i := 5) (v := .agg #[.bool y.s, .slice y.a y.k y.c, .slice y.b y.j y.d]) rfl (by kernel_rfl) (by kernel_rfl) (by kernel_rfl) (by kernel_rfl) (fun _ _ _ h => h) (Or.inl ⟨by rfl, fun w hSw => by (obtain ⟨e0, e1, e2, e3, e4, e5⟩ := hSw; go_simp)⟩) hHeld ?_
      try simp only [List.getElem_toArray, List.getElem_cons_succ, List.getElem_cons_zero, Act.put, List.setIfInBounds_toArray, List.set_cons_zero, List.set_cons_succ]
      refine wpAnyZ_take (i := 6) (v := .slice (some ⟨g, 0, none⟩) rs0.length cap) rfl (by kernel_rfl) (by kernel_rfl) (by kernel_rfl) (by kernel_rfl) (fun _ _ _ h => h) (Or.inl ⟨by rfl, fun w hSw => by (obtain ⟨e0, e1, e2, e3, e4, e5⟩ := hSw; go_simp)⟩) hHeld ?_
      try simp only [List.getElem_toArray, List.getElem_cons_succ, List.getElem_cons_zero, Act.put, List.setIfInBounds_toArray, List.set_cons_zero, List.set_cons_succ]
      refine wpAnyZ_take (i := 7) (v := .int .i64 (j : Int)) rfl (by kernel_rfl) (by kernel_rfl) (by kernel_rfl) (by kernel_rfl) (fun _ _ _ h => h) (Or.inl ⟨by rfl, fun w hSw => by (obtain ⟨e0, e1, e2, e3, e4, e5⟩ := hSw; go_simp)⟩) hHeld ?_
      try simp only [List.getElem_toArray, List.getElem_cons_succ, List.getElem_cons_zero, Act.put, List.setIfInBounds_toArray, List.set_cons_zero, List.set_cons_succ]
      refine wpAnyZ_take (i := 8) (v := .pointer (some ⟨g, j * 3, none⟩)) rfl (by kernel_rfl) (by kernel_rfl) (by kernel_rfl) (by kernel_rfl) (fun _ _ _ h => h) (Or.inl ⟨by rfl, fun w hSw => by (obtain ⟨e0, e1, e2, e3, e4, e5⟩ := hSw; go_simp)⟩) hHeld ?_
      try simp only [List.getElem_toArray, List.getElem_cons_succ, List.getElem_cons_zero, Act.put, List.setIfInBounds_toArray, List.set_cons_zero, List.set_cons_succ]
      refine wpAnyZ_take (i := 9) (v := .agg #[.bool y.s, .slice y.a y.k y.c, .slice y.b y.j y.d]) rfl (by kernel_rfl) (by kernel_rfl) (by kernel_rfl) (by kernel_rfl) (fun _ _ _ h => h) (Or.inl ⟨by rfl, fun w hSw => by (obtain ⟨e0, e1, e2, e3, e4, e5⟩ := hSw; go_simp)⟩) hHeld ?_
      try simp only [List.getElem_toArray, List.getElem_cons_succ, List.getElem_cons_zero, Act.put, List.setIfInBounds_toArray, List.set_cons_zero, List.set_cons_succ]
      refine wpAnyZ_ready (rs := [10]) (by kernel_rfl) (by simp) ?_
      refine AllReadyZ.cons rfl (fun K hK => ?_) AllReadyZ.nil
      go_simp
      refine (HNg.out _ v0).mono ?_
      intro e z1 hN
      obtain ⟨q1, rfl, hq1, x1⟩ := hN.isCan
      clear hN
      have X1 := v0.trans x1
      refine hK.out _ _ (HKK.out _ X1) (fun hHeld => ?_)
      clear hK K
      try simp only [List.getElem_toArray, List.getElem_cons_succ, List.getElem_cons_zero, Act.put, List.setIfInBounds_toArray, List.set_cons_zero, List.set_cons_succ]
      refine wpAnyZ_ready (rs := [11]) (by kernel_rfl) (by simp) ?_
      refine AllReadyZ.cons rfl (fun K hK => ?_) AllReadyZ.nil
      go_simp
      refine (HMx.out _ X1 _ _ hq1).mono ?_
      intro e z2 hN
      obtain ⟨q2, rfl, hq2, x2⟩ := hN.isCan
      clear hN
      have X2 := X1.trans x2
      refine hK.out _ _ (HKK.out _ X2) (fun hHeld => ?_)
      clear hK K
      try simp only [List.getElem_toArray, List.getElem_cons_succ, List.getElem_cons_zero, Act.put, List.setIfInBounds_toArray, List.set_cons_zero, List.set_cons_succ]
      refine wpAnyZ_take (i := 12) (v := .pointer (some ⟨g, j * 3, none⟩)) rfl (by kernel_rfl) (by kernel_rfl) (by kernel_rfl) (by kernel_rfl) (fun _ _ _ h => h) (Or.inl ⟨by rfl, fun w hSw => by (obtain ⟨e0, e1, e2, e3, e4, e5⟩ := hSw; go_simp)⟩) hHeld ?_
      try simp only [List.getElem_toArray, List.getElem_cons_succ, List.getElem_cons_zero, Act.put, List.setIfInBounds_toArray, List.set_cons_zero, List.set_cons_succ]
      obtain ⟨e0, e1, e2, e3, e4, e5⟩ := HKK.out _ X2
      refine wpAnyZ_ready (rs := [13]) (by kernel_rfl) (by simp) ?_
      refine AllReadyZ.last rfl rfl (fun K hK => ?_) AllReadyZ.nil
      go_simp
      
      refine hK.out _ _ ?_
      clear hK K
      try simp only [List.getElem_toArray, List.getElem_cons_succ, List.getElem_cons_zero, Act.put, List.setIfInBounds_toArray, List.set_cons_zero, List.set_cons_succ]
      refine wpAnyZ_done (by kernel_rfl) ?_ _
      go_wp2_with fail
      exact ⟨⟨j + 1, by omega, HSt.out _ _ _ X2 (by exact x1.size) hq2, by go_num⟩, by simp only [intOf]; omega⟩
    · obtain rfl : j = rs0.length := by omega
      have hwr := hrow.ext
      obtain ⟨a, c, e', hR⟩ := hrow.rats (by omega)
      simp only [Value.slice.injEq] at e'
      obtain ⟨rfl, -, rfl⟩ := e'
      obtain ⟨qs, hqs⟩ : ∃ qs, qs = absTo qs0 rs0.length := ⟨_, rfl⟩
      rw [← hqs] at hR
      clear hqs
      have hn : prs.length ≤ 30 := by omega
      have hS := hps
      have HX := Lib.hid hwr
      rw [← hpl]
      clear hwr hrow hps HROW HR0 HS0 hpl hlt hj
      have hA : ∀ V, Ext wr V → Calls Tryz.prog 45 #[.int .i64 (T0.tmod 100000), .slice p prs.length cap] V (fun e w' => ∃ pa pc, e = .returned (.tuple #[.slice pa (shN (T0.tmod 100000) qs) pc, .int .i64 (shE (T0.tmod 100000) qs)]) ∧ (shN (T0.tmod 100000) qs = 0 ∨ (shN (T0.tmod 100000) qs = (shOut (T0.tmod 100000) qs).length ∧ IntsAt w' pa (shOut (T0.tmod 100000) qs))) ∧ Ext V w') := fun V hV => (share_all V (T0.tmod 100000) p cap 4 prs qs (hR.ext hV) (by omega)).mono (fun _ _ hh => ShRes.val hh)
      have hB : ∀ V, Ext wr V → Calls Tryz.prog 46 #[.int .i64 (T0.tmod 100000), .slice p prs.length cap] V (fun e w' => ∃ pa pc, e = .returned (.tuple #[.slice pa (shN (T0.tmod 100000) qs) pc, .int .i64 (shE (T0.tmod 100000) qs)]) ∧ (shN (T0.tmod 100000) qs = 0 ∨ (shN (T0.tmod 100000) qs = (shOut (T0.tmod 100000) qs).length ∧ IntsAt w' pa (shOut (T0.tmod 100000) qs))) ∧ Ext V w') := fun V hV => (r40_share_all V (T0.tmod 100000) p cap 4 prs qs (hR.ext hV) (by omega) (hS.mono (by omega)) hn).mono (fun _ _ hh => ShRes.val hh)
      have hI := fun V pa pc pa' pc' h1 h2 => ints_val V pa pa' (shN (T0.tmod 100000) qs) pc pc' (shOut (T0.tmod 100000) qs) h1 h2 (by have := shN_le (T0.tmod 100000) qs; have := hR.len; omega)
      generalize shE (T0.tmod 100000) qs = E at hA hB
      generalize shN (T0.tmod 100000) qs = N at hA hB hI
      generalize shOut (T0.tmod 100000) qs = out at hA hB hI
      have HA := Lib.hid hA; have HB := Lib.hid hB; have HI := Lib.hid hI
      have hle := hR.le
      have hcap := hR.cap
      clear hA hB hI hR hS
      go_wp2_with fail
      refine (HA.out _ (Ext.refl _)).mono ?_
      rintro e w1 ⟨pa, pc, rfl, hi1, x1⟩
      go_wp2_with fail
      refine (HB.out _ x1).mono ?_
      rintro e w2 ⟨pb, pd, rfl, hi2, x2⟩
      go_wp2_with fail
      refine (law41_awake _).mono ?_
      rintro e w3 ⟨rfl, x3⟩
      have hi1' : N = 0 ∨ (N = out.length ∧ IntsAt w3 pa out) := hi1.imp id (fun hh => ⟨hh.1, hh.2.ext (x2.trans x3)⟩)
      have hi2' : N = 0 ∨ (N = out.length ∧ IntsAt w3 pb out) := hi2.imp id (fun hh => ⟨hh.1, hh.2.ext x3⟩)
      have HI1 := Lib.hid hi1'; have HI2 := Lib.hid hi2'
      clear hi1 hi2 hi1' hi2'
      go_wp2_with fail
      refine (HI.out _ _ _ _ _ HI1.out HI2.out).mono ?_
      rintro e w4 ⟨rfl, x4⟩
      go_wp2_with fail
      go_ret
      exact ⟨rfl, HX.out.trans (((x1.trans x2).trans x3).trans x4)⟩

/-- UpliftShares returns true. -/
theorem law41_UpliftShares (w : World) (T : Int) (a : Option Addr) (c : Nat) (rs : List RVal) (near : Bool) (_lo : -9223372036854775808 ≤ T) (_hi : T < 9223372036854775808) (h : RatsIn w a c rs) :
    Calls Tryz.prog 9 #[.int .i64 T, .slice a rs.length c, .bool near] w fun e w' => e = .returned (.bool true) ∧ Ext w w' := by
  by_cases hr : IsRaw rs
  · cases near with
    | false => exact law41_shares_far w T a c rs h hr
    | true => exact law41_shares_near w T a c rs h hr
  · have HRaw := Lib.hid (stage_Raw_no w a c rs h hr)
    clear hr
    go_enter Tryz.func9, Tryz.ntmps9
    go_wp2_with fail
    refine HRaw.out.mono ?_
    rintro e w' ⟨rfl, rfl⟩
    go_wp2_with fail
    go_ret
    exact ⟨rfl, Ext.refl _⟩

end Go.Proofs.YtgihpfkjpfanmaaGreat
