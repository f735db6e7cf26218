/- Texts of the proof: Ev10. -/
import Derived.Test.YtgihpfkjpfanmaaGreatGN
/- UpliftEven's walk. -/
namespace Go.Proofs.YtgihpfkjpfanmaaGreat
open Go.RowKit

theorem quiet_left {P : Program} {f : FuncId} {args : Array Value} {w : World} {n : Nat} {v : Value}
    (h : Calls P f args (w.drewN n) fun e w' => e = .returned v ∧ w.drewN n = w') : Calls P f args (w.drewN n) fun e w'' => e = .returned v ∧ ∃ m, w'' = w.drewN m :=
  h.mono fun _ _ ⟨he, hm⟩ => ⟨he, n, hm.symm⟩

/-- The state at the head of the first loop. -/
def EvLoop (w : World) (xs : List Int) (j : Nat) (v : Value) (wr : World) : Prop := j ≤ xs.length ∧ ∃ rs : List RVal, rs.length = j ∧ RatRow w wr v rs ((xs.take j).map evQ) 2

theorem IntIn.at {w : World} {a : Option Addr} {c : Nat} {xs : List Int} (h : IntIn w a c xs) (h0 : 0 < xs.length) : ∃ b o, a = some ⟨b, o, none⟩ := by
  obtain ⟨b, o, ha, _⟩ := h.cell 0 h0; exact ⟨b, o, ha⟩

theorem len_evQ (x : Int) : rsz (evQ x) ≤ 2 := by
  have h := rsz_mkRat (modU x 7) 2
  have hm := modU_range x 7 (by omega)
  have h1 : len (modU x 7).natAbs ≤ 2 := len_natAbs_i64 (by omega) (by omega)
  have h2 : len 2 ≤ 2 := by decide
  unfold evQ
  omega

theorem even_of (w : World) (x : Int) : Calls Tryz.prog 39 #[.int .i64 (modU x 7), .int .i64 2] w (NewRat (evQ x) w) := by
  have hm := modU_range x 7 (by omega)
  exact r3_Of w (modU x 7) 2 (by omega) (by omega) (by omega)

theorem cells_new (w : World) (T : TypeId) (vs : List Value) : ∀ j u, vs[j]? = some u → (w.alloc (.cells vs.toArray T)).cell? (Addr.add ⟨w.heap.size, 0, none⟩ j) = some u := by
  intro j u hu
  rw [show (Addr.add ⟨w.heap.size, 0, none⟩ j) = ⟨w.heap.size, 0 + j, none⟩ from by unfold Addr.add; split <;> simp_all, Nat.zero_add, (Arr.alloc w T vs).cell]
  exact hu
theorem ratVals_one (r : RVal) : ∀ u ∈ r.cells, u.oneCell' = true := by
  intro u hu
  simp only [RVal.cells, List.mem_cons, List.not_mem_nil, or_false] at hu
  rcases hu with rfl | rfl | rfl <;> rfl

/-- What the loops ask of the parts. -/
def EvenPlain (xs out : List Int) : Prop :=
  (∀ i (hi : i < xs.length), modU xs[i] 7 = 0 → out[i]?.getD 0 = 0) ∧ (∀ i k (hi : i < xs.length) (hk : k < xs.length), modU xs[i] 7 = modU xs[k] 7 → out[i]?.getD 0 - out[k]?.getD 0 ≤ 1) ∧
  (∀ i k (hi : i < xs.length) (hk : k < xs.length), modU xs[k] 7 < modU xs[i] 7 → out[k]?.getD 0 ≤ out[i]?.getD 0)
theorem even_plain {T : Int} {xs : List Int} (h : EvenLaw T (xs.map evQ)) : EvenPlain xs (shOut T (xs.map evQ)) := by
  refine ⟨fun i hi e => h.zero i (by simpa using hi) ?_, fun i k hi hk e => h.same k i (by simpa using hk) (by simpa using hi) ?_, fun i k hi hk e => h.mono i k (by simpa using hi) (by simpa using hk) ?_⟩
  · rw [List.getElem_map]; exact evQ_zero e
  · rw [List.getElem_map, List.getElem_map]; exact evQ_eq e.symm
  · rw [List.getElem_map, List.getElem_map]; exact evQ_lt e

theorem law41_long (w : World) (T : Int) (a : Option Addr) (k c : Nat) (hk : 40 < k) (hs : k ≤ 9223372036854775807) :
    Calls Tryz.prog 10 #[.int .i64 T, .slice a k c] w fun e w' => e = .returned (.bool true) ∧ Ext w w' := by
  go_enter Tryz.func10, Tryz.ntmps10
  go_wp2_with fail
  go_ret
  exact ⟨rfl, Ext.refl _⟩

set_option maxHeartbeats 4000000 in
set_option maxRecDepth 100000 in
theorem law41_even (w : World) (T0 : Int) (a : Option Addr) (c : Nat) (xs : List Int) (h : IntIn w a c xs) (hT1 : -9223372036854775808 ≤ T0) (hT2 : T0 < 9223372036854775808) (hs : xs.length ≤ 40) :
    Calls Tryz.prog 10 #[.int .i64 T0, .slice a xs.length c] w fun e w' => e = .returned (.bool true) ∧ Ext w w' := by
  have hle := h.le
  have hcap := h.cap
  have hTr := modU_range T0 100001 (by omega)
  go_enter Tryz.func10, Tryz.ntmps10
  go_wp2_with fail
  refine (make_Mod _ T0 100001 hT1 hT2 (by omega) (by omega)).mono ?_
  rintro e w' ⟨rfl, rfl⟩
  generalize modU T0 100001 = T at *
  clear hT1 hT2
  go_wp2_with fail
  go_loopw [5, 6, 7] (fun v n i wr => ∃ j : Nat, EvLoop w xs j v wr ∧ n = .int .i64 (evN (xs.take j)) ∧ i = .int .i64 j) (fun _ _ i _ => xs.length - (intOf i).toNat)
  case atStart => exact ⟨0, ⟨Nat.zero_le _, [], rfl, RatRow.start (Ext.refl _) _⟩, rfl, rfl⟩
  case round =>
    obtain ⟨j, ⟨hj, rs, hrl, hrow⟩, rfl, rfl⟩ := hrel
    have hnb := evN_bound (xs.take j)
    have htl : (xs.take j).length ≤ 40 := by rw [List.length_take]; omega
    by_cases hlt : j < xs.length
    · obtain ⟨b, o, rfl⟩ := h.at (by omega)
      obtain ⟨b', o', e', c0⟩ := (h.ext hrow.ext).cell j hlt
      cases e'
      have hr := h.rng j hlt
      have hm := modU_range xs[j] 7 (by omega)
      have hOf := fun V => even_of V xs[j]
      have hN : Hid (evN (xs.take (j + 1)) = evN (xs.take j) + modU xs[j] 7) := Lib.hid (evN_take xs j hlt)
      have HQ : Hid ((xs.take (j + 1)).map evQ = (xs.take j).map evQ ++ [evQ xs[j]]) := Lib.hid (by rw [List.take_succ_eq_append_getElem hlt, List.map_append]; rfl)
      have hq2 := len_evQ xs[j]
      have hMod := fun V => make_Mod V xs[j] 7 hr.1 hr.2 (by omega) (by omega)
      generalize evN (xs.take j) = n at *
      generalize evQ xs[j] = q at *
      generalize modU xs[j] 7 = m at *
      generalize xs[j] = x at *
      have HOf := Lib.hid hOf
      have HMod := Lib.hid hMod
      have HR := Lib.hid hrow
      have HRL := Lib.hid hrl
      clear hOf hMod hrow hrl
      go_wp2_with fail
      refine (HMod.out _).mono ?_
      rintro e w' ⟨rfl, rfl⟩
      go_wp2_with fail
      refine (HOf.out _).mono ?_
      intro e w2 hNR
      obtain ⟨r, rfl, hr2, x2⟩ := hNR.isCan
      clear hNR
      have hrow2 := HR.out.extend x2
      have hOff : Off r u5.ownBlock := off_fresh HR.out.own hr2.fa hr2.fb
      have hRat := hr2.isRat.mono hq2
      have hsz2 := x2.size
      have hEw := hrow2.ext
      have hEs := hEw.size
      have HROW := Lib.hid hrow2
      have HRAT := Lib.hid hRat
      have HOFF := Lib.hid hOff
      have HE := Lib.hid hEw
      clear hrow2 hRat hOff hEw hr2 hq2 HR
      go_wp2_with (at_builtin; refine wpList_append_at _ rfl _ _ 48 rfl w.heap.size 55 (.agg zero3.toArray) 3 56 Tryz.underlying48 Tryz.info_rat rfl (by decide) u5 rs.length (ratCells rs) rfl ?c1 _ 1 1 r.cells rfl rfl ?c2 ?c3 ?c4 ?c5 (by decide) ?c6 ?_; rotate_right; intro v' w3 ho he hb hz hv)
      · have xa : Ext w2 (w2.alloc (.cells #[.bool r.s, .slice r.a r.k r.c, .slice r.b r.j r.d] 55)) := (Ext.refl _).alloc _
        have hn := (HROW.out.extend xa).snoc (HRAT.out.ext xa) HOFF.out ho.out (he.out w (HE.out.trans xa) (Nat.le_refl _)) hb.out hv.out
        refine ⟨⟨j + 1, ⟨by omega, rs ++ [r], by simp [HRL.out], by rw [HQ.out]; exact hn⟩, by rw [hN.out], by go_num⟩, by simp [intOf]; omega⟩
      · exact ownsRow_ext HROW.out.own ((Ext.refl _).alloc _)
      · intro _
        refine ⟨_, rfl, ?_⟩
        exact cells_new w2 55 r.cells
      · exact ratVals_one r
      · intro e; cases e
      · have := HRL.out; omega
      · simp; omega
    · obtain rfl : j = xs.length := by omega
      obtain ⟨a', c', rfl, hR⟩ := hrow.rats (by omega)
      have hE := hrow.ext
      rw [List.take_length] at hR hnb
      rw [List.take_length]
      have hp : ∀ x ∈ xs.map evQ, 0 ≤ x := by
        intro x hx
        obtain ⟨y, _, rfl⟩ := List.mem_map.1 hx
        exact evQ_nonneg y
      have hpos : ∀ i (hi : i < rs.length), 0 ≤ ((xs.map evQ)[i]'(by rw [hR.len]; exact hi)) := fun i hi => hp _ (List.getElem_mem _)
      by_cases hz : evN xs = 0
      · have hS := share_none wr T a' c' 2 rs _ hR (by omega) (by omega) (by omega) (by omega) hpos (evN_zero.1 hz)
        rw [hrl] at hS
        rw [hrl]
        have HS := Lib.hid hS
        rw [hz]
        clear hS hp hpos hR hz hrow hnb hrl
        go_wp2_with fail
        refine HS.out.mono ?_
        rintro e w2 ⟨rfl, x2⟩
        go_wp2_with fail
        refine (law41_awake _).mono ?_
        rintro e w3 ⟨rfl, x3⟩
        go_wp2_with fail
        go_ret
        exact ⟨rfl, (hE.trans x2).trans x3⟩
      · have hS0 : ¬ qsum (xs.map evQ) = 0 := fun e => hz (evN_zero.2 e)
        have hn0 : 0 < xs.length := by
          rcases xs with _ | ⟨x, xs⟩
          · exact absurd rfl hz
          · simp
        have hS := share_ok wr T a' c' 2 rs _ hR (by omega) (by omega) (by omega) (by omega) hpos (by omega) hS0
        have hL := even_law T (xs.map evQ) hTr.1 hp hS0
        have hB := shOut_bound T (xs.map evQ) (by omega) (by omega) hp hS0
        have hlen := hL.len
        rw [List.length_map] at hlen
        change Calls _ _ _ _ (ApGood (shOut T (xs.map evQ)) wr) at hS
        rw [hrl] at hS
        rw [hrl]
        have hB' : ∀ i, i < xs.length → -281474976710656 ≤ (shOut T (xs.map evQ))[i]?.getD 0 ∧ (shOut T (xs.map evQ))[i]?.getD 0 ≤ 281474976710657 := fun i hi => hB i (by simpa using hi)
        have hP := even_plain hL
        have hsum := hL.sum
        generalize shOut T (xs.map evQ) = out at *
        have hS' : Calls Tryz.prog 45 #[.int .i64 T, .slice a' xs.length c'] wr fun e w' => ∃ p, e = .returned (.tuple #[.slice (some ⟨p, 0, none⟩) xs.length xs.length, .int .i64 0]) ∧ Arr w' p 3 (i64s out) ∧ Ext wr w' := by
          refine hS.mono ?_
          rintro e w' ⟨p, he, _, hA, hx⟩
          rw [hlen] at he
          exact ⟨p, he, hA, hx⟩
        have HS := Lib.hid hS'
        have hz' : (evN xs == 0) = false := by simpa using hz
        generalize evN xs = n at *
        have HL := Lib.hid hlen
        have HB := Lib.hid hB'
        have HP := Lib.hid hP
        have HSUM := Lib.hid hsum
        clear hS hS' hp hpos hR hz hrow hnb hL hB hB' hlen hP hsum hS0 hrl
        go_wp2_with fail
        refine HS.out.mono ?_
        rintro e w2 ⟨p, rfl, hA, x2⟩
        go_wp2_with fail
        refine (law41_awake _).mono ?_
        rintro e w3 ⟨rfl, x3⟩
        have hA3 := hA.ext x3
        have hE3 : Ext w w3 := (hE.trans x2).trans x3
        clear hA x2 x3 hE
        go_wp2_with fail
        go_loopw [11, 12] (fun sm i wl => ∃ j : Nat, j ≤ xs.length ∧ Ext w3 wl ∧ sm = .int .i64 (isum (out.take j)) ∧ i = .int .i64 j) (fun _ i _ => xs.length - (intOf i).toNat)
        case atStart => exact ⟨0, Nat.zero_le _, Ext.refl _, rfl, rfl⟩
        case round =>
          obtain ⟨i, hi, hX, rfl, rfl⟩ := hrel
          obtain ⟨wl, rfl⟩ : ∃ wl : World, wl = wr := ⟨_, rfl⟩
          obtain ⟨b1, b2⟩ := isum_take_bound out 281474976710657 (by decide) (fun k hk => by have := HB.out k (by rw [← HL.out]; exact hk); omega) i (by rw [HL.out]; exact hi) (by rw [HL.out]; exact hs)
          by_cases hlt : i < xs.length
          · obtain ⟨b, o, rfl⟩ := h.at (by omega)
            obtain ⟨b', o', e', c0⟩ := (h.ext (hE3.trans hX)).cell i hlt
            cases e'
            have hr := h.rng i hlt
            have cO := hA3.ext hX
            have g0 : wl.cell? ⟨p, i, none⟩ = some (.int .i64 (out[i]?.getD 0)) := by
              rw [cO.cell, i64s_get _ _ (by rw [HL.out]; exact hlt), List.getElem?_eq_getElem (by rw [HL.out]; exact hlt)]; rfl
            have hSu : Hid (isum (out.take (i + 1)) = isum (out.take i) + out[i]?.getD 0) := Lib.hid (by
              rw [isum_take_succ _ _ (by rw [HL.out]; exact hlt), List.getElem?_eq_getElem (by rw [HL.out]; exact hlt)]; rfl)
            have hb := HB.out i hlt
            have hz0 := HP.out.1 i hlt
            have hMod := fun V => make_Mod V xs[i] 7 hr.1 hr.2 (by omega) (by omega)
            have HMod := Lib.hid hMod
            clear hMod
            have HZ0 : Hid (modU xs[i] 7 = 0 → out[i]?.getD 0 = 0) := Lib.hid hz0
            have HSA : Hid (∀ k (hk : k < xs.length), modU xs[i] 7 = modU xs[k] 7 → out[i]?.getD 0 - out[k]?.getD 0 ≤ 1) := Lib.hid (fun k hk => HP.out.2.1 i k hlt hk)
            have HSB : Hid (∀ k (hk : k < xs.length), modU xs[i] 7 = modU xs[k] 7 → out[k]?.getD 0 - out[i]?.getD 0 ≤ 1) := Lib.hid (fun k hk e => HP.out.2.1 k i hk hlt e.symm)
            have HSC : Hid (∀ k (hk : k < xs.length), modU xs[k] 7 < modU xs[i] 7 → out[k]?.getD 0 ≤ out[i]?.getD 0) := Lib.hid (fun k hk e => HP.out.2.2 i k hlt hk e)
            clear hz0
            generalize hm : modU xs[i] 7 = m at *
            generalize hou : out[i]?.getD 0 = ou at *
            generalize isum (out.take i) = su at *
            have HM : Hid (modU xs[i] 7 = m) := Lib.hid hm
            have HOU : Hid (out[i]?.getD 0 = ou) := Lib.hid hou
            clear hm hou
            have c0' := c0
            generalize hxx : xs[i] = x at c0 HMod
            have HXX := Lib.hid hxx
            clear hxx c0'
            have hlt' : (i : Int) < (xs.length : Int) := by omega
            have hi0 : (0 : Int) ≤ (i : Int) := by omega
            by_cases hm0 : m = 0
            all_goals first
              | (have t0 : (m == 0) = true := by simpa using hm0
                 have t1 : (ou != 0) = false := by rw [HZ0.out hm0]; rfl)
              | (have t0 : (m == 0) = false := by simpa using hm0)
            all_goals clear hm0
            all_goals go_wp2_with fail
            all_goals refine (HMod.out _).mono ?_
            all_goals rintro e w' ⟨rfl, rfl⟩
            all_goals go_wp2_with fail
            all_goals
              go_loopw [13] (fun kk wq => ∃ q : Nat, q ≤ xs.length ∧ Ext wl wq ∧ kk = .int .i64 q) (fun kk _ => xs.length - (intOf kk).toNat)
              case atStart => exact ⟨0, Nat.zero_le _, Ext.refl _, rfl⟩
              case round =>
                obtain ⟨q, hq, hY, rfl⟩ := hrel
                obtain ⟨wq, rfl⟩ : ∃ wq : World, wq = wr := ⟨_, rfl⟩
                have c1 := cell_ext hY c0
                have g1 := cell_ext hY g0
                by_cases hlq : q < xs.length
                · obtain ⟨b5, o5, e5, c2⟩ := (h.ext ((hE3.trans hX).trans hY)).cell q hlq
                  cases e5
                  have hr2 := h.rng q hlq
                  have cO2 := cO.ext hY
                  have g2 : wq.cell? ⟨p, q, none⟩ = some (.int .i64 (out[q]?.getD 0)) := by
                    rw [cO2.cell, i64s_get _ _ (by rw [HL.out]; exact hlq), List.getElem?_eq_getElem (by rw [HL.out]; exact hlq)]; rfl
                  have hb2 := HB.out q hlq
                  have hMod2 := fun V => make_Mod V xs[q] 7 hr2.1 hr2.2 (by omega) (by omega)
                  have HMod2 := Lib.hid hMod2
                  clear hMod2
                  have hsa := HSA.out q hlq
                  have hsb := HSB.out q hlq
                  have hsc := HSC.out q hlq
                  generalize modU xs[q] 7 = m2 at *
                  generalize out[q]?.getD 0 = oq at *
                  generalize xs[q] = x2 at *
                  have hlq' : (q : Int) < (xs.length : Int) := by omega
                  have hq0 : (0 : Int) ≤ (q : Int) := by omega
                  have w1' : IntKind.i64.wrap (ou - oq) = ou - oq := IntWalk.i64_in _ (by omega)
                  have w2' : IntKind.i64.wrap (oq - ou) = oq - ou := IntWalk.i64_in _ (by omega)
                  have tst : ((m == m2) = true ∧ decide (m2 < m) = false ∧ decide (1 < ou - oq) = false ∧ decide (1 < oq - ou) = false) ∨ ((m == m2) = false ∧ decide (m2 < m) = true ∧ decide (ou < oq) = false) ∨ ((m == m2) = false ∧ decide (m2 < m) = false) := by
                    by_cases e1 : m = m2
                    · exact Or.inl ⟨by simpa using e1, by simp; omega, by have := hsa e1; simp; omega, by have := hsb e1; simp; omega⟩
                    · by_cases e2 : m2 < m
                      · exact Or.inr (Or.inl ⟨by simpa using e1, by simpa using e2, by have := hsc e2; simp; omega⟩)
                      · exact Or.inr (Or.inr ⟨by simpa using e1, by simpa using e2⟩)
                  clear hsa hsb hsc cO2 hr2 hb2
                  go_wp2_with fail
                  go_quiet ((go_at_call 22; first | (with_reducible exact quiet_left (HMod.out _)) | (with_reducible exact quiet_left (HMod2.out _))))
                  go_wp2_with fail
                  rcases tst with ⟨t1, t2, t3, t4⟩ | ⟨t1, t2, t3⟩ | ⟨t1, t2⟩
                  all_goals go_quiet (fail)
                  all_goals clear t1 t2
                  all_goals go_wp2_with fail
                  all_goals exact ⟨⟨q + 1, by omega, hY.drewN _, by go_num⟩, by simp only [intOf]; omega⟩
                · obtain rfl : q = xs.length := by omega
                  go_wp2_with fail
                  go_roundw
                  case rel => exact ⟨i + 1, by omega, hX.trans hY, by rw [hSu.out], by go_num⟩
                  case measure => simp [intOf] <;> omega
          · obtain rfl : i = xs.length := by omega
            have e1 : isum (out.take xs.length) = T := by rw [← HSUM.out, ← HL.out, List.take_length]
            rw [e1]
            clear e1
            go_wp2_with fail
            go_ret
            exact ⟨rfl, hE3.trans hX⟩

/-- UpliftEven returns true. -/
theorem law41_UpliftEven (w : World) (T0 : Int) (a : Option Addr) (c : Nat) (xs : List Int) (h : IntIn w a c xs) (hT1 : -9223372036854775808 ≤ T0) (hT2 : T0 < 9223372036854775808) :
    Calls Tryz.prog 10 #[.int .i64 T0, .slice a xs.length c] w fun e w' => e = .returned (.bool true) ∧ Ext w w' := by
  by_cases hs : xs.length ≤ 40
  · exact law41_even w T0 a c xs h hT1 hT2 hs
  · have := h.le
    have := h.cap
    exact law41_long w T0 a xs.length c (by omega) (by omega)

end Go.Proofs.YtgihpfkjpfanmaaGreat
