/- Texts of the proof: Fa4. -/
import Derived.Test.YtgihpfkjpfanmaaGreatGP
/- SettlementFair's walk. -/
namespace Go.Proofs.YtgihpfkjpfanmaaGreat
open Go.RowKit

/-- The state at the head of the first loop. -/
def FaLoop (w : World) (xs : List Int) (d j : Nat) (v : Value) (wr : World) : Prop := j ≤ xs.length ∧ ∃ rs : List RVal, rs.length = j ∧ RShort rs 2 ∧ RatRow w wr v rs ((xs.take j).map (faQ d)) 2

theorem cell_setN {w : World} {b i0 i1 i2 : Nat} {p : Addr} {x v0 v1 v2 : Value} (h : w.cell? p = some x) (hb : p.block ≠ b) : (((w.setCell ⟨b, i0, none⟩ v0).setCell ⟨b, i1, none⟩ v1).setCell ⟨b, i2, none⟩ v2).cell? p = some x := by
  rw [World.cell?_setCell_other _ _ _ _ (by intro e; exact hb (by rw [← e])), World.cell?_setCell_other _ _ _ _ (by intro e; exact hb (by rw [← e])), World.cell?_setCell_other _ _ _ _ (by intro e; exact hb (by rw [← e])), h]

theorem isum_take_bound' (l : List Int) (M : Int) (h0 : 0 ≤ M) (h : ∀ i, i < l.length → -M ≤ l[i]?.getD 0 ∧ l[i]?.getD 0 ≤ M) (j : Nat) (hj : j ≤ l.length) (hl : l.length ≤ 41) : -(41 * M) ≤ isum (l.take j) ∧ isum (l.take j) ≤ 41 * M := by
  have h1 := isum_bound (l.take j) M (by
    intro x hx
    obtain ⟨i, hi, rfl⟩ := List.getElem_of_mem hx
    rw [List.length_take] at hi
    have := h i (by omega)
    rw [List.getElem?_eq_getElem (by omega)] at this
    simpa using this)
  have h2 : ((l.take j).length : Int) * M ≤ 41 * M := Int.mul_le_mul_of_nonneg_right (by rw [List.length_take]; omega) h0
  omega

set_option maxRecDepth 100000 in
theorem law40_long (w : World) (D : Int) (a : Option Addr) (k c : Nat) (hk : 40 < k) (hs : k ≤ 9223372036854775807) :
    Calls Tryz.prog 8 #[.slice a k c, .int .i64 D] w fun e w' => e = .returned (.bool true) ∧ Ext w w' := by
  go_enter Tryz.func8, Tryz.ntmps8
  go_wp2_with fail
  go_ret
  exact ⟨rfl, Ext.refl _⟩

/-- The state at the head of the second loop: i of the parts are there. -/
def FaAt (W4 : World) (qs : List Rat) (n bp BB : Nat) (i : Nat) (wr : World) : Prop :=
  ∃ prs : List RVal, prs.length = i ∧ i ≤ n ∧ Arr wr bp 55 (ratCells prs ++ zeros3 (n - i)) ∧ (∀ k (hk : k < prs.length), IsCan wr prs[k] (qs[k]?.getD 0 - (((qs[k]?.getD 0).floor : Int) : Rat)) BB) ∧ Ext W4 wr ∧ BB ≤ wr.heap.size

/-- The test of the inner loop, decided. -/
def FaTest (i k : Nat) (u v t : Int) : Prop := decide (0 < u) = false ∨ (decide (0 < u) = true ∧ decide (v < 0) = false) ∨ (decide (0 < u) = true ∧ decide (v < 0) = true ∧ decide (t < 0) = false ∧ (t == 0) = false) ∨ (decide (0 < u) = true ∧ decide (v < 0) = true ∧ decide (t < 0) = false ∧ (t == 0) = true ∧ decide (k < i) = false)
theorem fa_test {qs : List Rat} {out : List Int} (h : FairLaw qs out) (i k : Nat) (hi : i < qs.length) (hk : k < qs.length) : FaTest i k (cmpQ ((out[i]?.getD 0 : Int) : Rat) (qs[i]?.getD 0)) (cmpQ ((out[k]?.getD 0 : Int) : Rat) (qs[k]?.getD 0)) (cmpQ ((fracs qs)[i]?.getD 0) ((fracs qs)[k]?.getD 0)) := by
  have hf := h.fair i k hi hk
  rw [fracs_get qs i hi, fracs_get qs k hk, List.getElem?_eq_getElem hi, List.getElem?_eq_getElem hk, Option.getD_some, Option.getD_some]
  unfold FaTest
  by_cases h1 : qs[i] < ((out[i]?.getD 0 : Int) : Rat)
  · have e1 := decide_eq_true (cmpQ_gt.2 h1)
    by_cases h2 : ((out[k]?.getD 0 : Int) : Rat) < qs[k]
    · have e2 := decide_eq_true (cmpQ_lt.2 h2)
      have h3 := hf h1 h2
      have e3 : decide (cmpQ (qs[i] - ((qs[i].floor : Int) : Rat)) (qs[k] - ((qs[k].floor : Int) : Rat)) < 0) = false := decide_eq_false (fun hh => h3 (Or.inl (cmpQ_lt.1 hh)))
      by_cases h4 : qs[i] - ((qs[i].floor : Int) : Rat) = qs[k] - ((qs[k].floor : Int) : Rat)
      · refine Or.inr (Or.inr (Or.inr ⟨e1, e2, e3, by rw [beq_iff_eq]; exact cmpQ_eq.2 h4, decide_eq_false (fun hh => h3 (Or.inr ⟨h4, hh⟩))⟩))
      · exact Or.inr (Or.inr (Or.inl ⟨e1, e2, e3, by rw [beq_eq_false_iff_ne]; exact fun hh => h4 (cmpQ_eq.1 hh)⟩))
    · exact Or.inr (Or.inl ⟨e1, decide_eq_false (fun hh => h2 (cmpQ_lt.1 hh))⟩)
  · exact Or.inl (decide_eq_false (fun hh => h1 (cmpQ_gt.1 hh)))

theorem FaAt.extend {W4 : World} {qs : List Rat} {n bp BB i : Nat} {wr w' : World} (h : FaAt W4 qs n bp BB i wr) (e : Ext wr w') : FaAt W4 qs n bp BB i w' := by
  obtain ⟨prs, h1, h2, h3, h4, h5, h6⟩ := h
  exact ⟨prs, h1, h2, h3.ext e, fun k hk => (h4 k hk).ext e, h5.trans e, Nat.le_trans h6 e.size⟩

theorem frac_short {q : Rat} (h : rsz q ≤ max 2 1) (hf : -281474976710656 ≤ q.floor ∧ q.floor ≤ 281474976710656) : rsz (q - ((q.floor : Int) : Rat)) ≤ 5 := by
  have h1 : rsz ((q.floor : Int) : Rat) ≤ 2 := by rw [rsz_int]; have := len_natAbs_i64 (z := q.floor) (by omega) (by omega); omega
  have := rsz_sub q ((q.floor : Int) : Rat)
  omega

set_option maxHeartbeats 4000000 in
set_option maxRecDepth 100000 in
theorem law40_fair (w : World) (D : Int) (a : Option Addr) (c : Nat) (xs : List Int) (h : IntIn w a c xs) (hD1 : -9223372036854775808 ≤ D) (hD2 : D < 9223372036854775808) (hs : xs.length ≤ 40) :
    Calls Tryz.prog 8 #[.slice a xs.length c, .int .i64 D] w fun e w' => e = .returned (.bool true) ∧ Ext w w' := by
  have hle := h.le
  have hcap := h.cap
  have hDr := modU_range D 12 (by omega)
  obtain ⟨d, hd⟩ : ∃ d : Nat, 1 + modU D 12 = (d : Int) := ⟨(1 + modU D 12).toNat, by omega⟩
  have hd0 : 0 < d := by omega
  have hd1 : d ≤ 12 := by omega
  have HD := Lib.hid hd
  clear hd
  go_enter Tryz.func8, Tryz.ntmps8
  go_wp2_with fail
  refine (make_Mod _ D 12 hD1 hD2 (by omega) (by omega)).mono ?_
  rintro e w' ⟨rfl, rfl⟩
  go_wp2_with fail
  rw [HD.out]
  clear hD1 hD2 hDr HD
  go_loopw [6, 7, 8] (fun v n i wr => ∃ j : Nat, FaLoop w xs d j v wr ∧ n = .int .i64 (faS (xs.take j)) ∧ i = .int .i64 j) (fun _ _ i _ => xs.length - (intOf i).toNat)
  case atStart => exact ⟨0, ⟨Nat.zero_le _, [], rfl, RShort.nil _, RatRow.start (Ext.refl _) _⟩, rfl, rfl⟩
  case round =>
    obtain ⟨j, ⟨hj, rs, hrl, hsh, hrow⟩, rfl, rfl⟩ := hrel
    have hnb := faS_bound (xs.take j)
    have htl : (xs.take j).length ≤ 40 := by rw [List.length_take]; omega
    by_cases hlt : j < xs.length
    · obtain ⟨b, o, rfl⟩ := h.at (by omega)
      obtain ⟨b', o', e', c0⟩ := (h.ext hrow.ext).cell j hlt
      cases e'
      have hr := h.rng j hlt
      have hm := modU_range xs[j] 2001 (by omega)
      have hfr := faN_range xs[j]
      have hOf : ∀ V, Calls Tryz.prog 39 #[.int .i64 (modU xs[j] 2001 - 1000), .int .i64 (d : Nat)] V (NewRat (faQ d xs[j]) V) := fun V => r3_Of V (faN xs[j]) d (by omega) (by omega) (by omega)
      have hN : Hid (faS (xs.take (j + 1)) = faS (xs.take j) + (modU xs[j] 2001 - 1000)) := Lib.hid (faS_take xs j hlt)
      have HQ : Hid ((xs.take (j + 1)).map (faQ d) = (xs.take j).map (faQ d) ++ [faQ d xs[j]]) := Lib.hid (by rw [List.take_succ_eq_append_getElem hlt, List.map_append]; rfl)
      have hq2 : rsz (faQ d xs[j]) ≤ 2 := mkRat_short _ d (by omega) (by omega) (by omega)
      have hMod := fun V => make_Mod V xs[j] 2001 hr.1 hr.2 (by omega) (by omega)
      clear hfr
      generalize faS (xs.take j) = n at *
      generalize faQ d xs[j] = q at *
      generalize modU xs[j] 2001 = m at *
      generalize xs[j] = x at *
      have HOf := Lib.hid hOf
      have HMod := Lib.hid hMod
      have HR := Lib.hid hrow
      have HRL := Lib.hid hrl
      have HSH := Lib.hid hsh
      clear hOf hMod hrow hrl hsh
      go_wp2_with fail
      refine (HMod.out _).mono ?_
      rintro e w' ⟨rfl, rfl⟩
      go_wp2_with fail
      refine (HOf.out _).mono ?_
      intro e w2 hNR
      obtain ⟨r, rfl, hr2, x2⟩ := hNR.isCan
      clear hNR
      have hrow2 := HR.out.extend x2
      have hOff : Off r u6.ownBlock := off_fresh HR.out.own hr2.fa hr2.fb
      have hRat := hr2.isRat.mono hq2
      have hks := hr2.short hq2
      have hsz2 := x2.size
      have hEw := hrow2.ext
      have hEs := hEw.size
      have HROW := Lib.hid hrow2
      have HRAT := Lib.hid hRat
      have HOFF := Lib.hid hOff
      have HE := Lib.hid hEw
      clear hrow2 hRat hOff hEw hr2 hq2 HR
      go_wp2_with (at_builtin; refine wpList_append_at _ rfl _ _ 48 rfl w.heap.size 55 (.agg zero3.toArray) 3 56 Tryz.underlying48 Tryz.info_rat rfl (by decide) u6 rs.length (ratCells rs) rfl ?c1 _ 1 1 r.cells rfl rfl ?c2 ?c3 ?c4 ?c5 (by decide) ?c6 ?_; rotate_right; intro v' w3 ho he hb hz hv)
      · have xa : Ext w2 (w2.alloc (.cells #[.bool r.s, .slice r.a r.k r.c, .slice r.b r.j r.d] 55)) := (Ext.refl _).alloc _
        have hn := (HROW.out.extend xa).snoc (HRAT.out.ext xa) HOFF.out ho.out (he.out w (HE.out.trans xa) (Nat.le_refl _)) hb.out hv.out
        refine ⟨⟨j + 1, ⟨by omega, rs ++ [r], by simp [HRL.out], HSH.out.snoc hks.1 hks.2, by rw [HQ.out]; exact hn⟩, by rw [hN.out], by go_num⟩, by simp [intOf]; omega⟩
      · exact ownsRow_ext HROW.out.own ((Ext.refl _).alloc _)
      · intro _
        refine ⟨_, rfl, ?_⟩
        exact cells_new w2 55 r.cells
      · exact ratVals_one r
      · intro e; cases e
      · have := HRL.out; omega
      · simp; omega
    · obtain rfl : j = xs.length := by omega
      rw [List.take_length] at hrow hnb
      rw [List.take_length]
      have hOf : ∀ V, Calls Tryz.prog 39 #[.int .i64 (-(faS xs)), .int .i64 (d : Nat)] V (NewRat (mkRat (-(faS xs)) d) V) := fun V => r3_Of V (-(faS xs)) d (by omega) (by omega) (by omega)
      have hq2 : rsz (mkRat (-(faS xs)) d) ≤ 2 := mkRat_short _ d (by omega) (by omega) (by omega)
      have HL : Hid (xs.map (faQ d) ++ [mkRat (-(faS xs)) d] = faL d xs) := Lib.hid rfl
      have HLaw := Lib.hid (fair_law (faL d xs) (faL_sum d hd0 xs))
      have HB := Lib.hid (fun i hi => fair_bound HLaw.out (faL_ok d hd0 xs hs) i hi)
      have HOK := Lib.hid (faL_ok d hd0 xs hs)
      have HSum := Lib.hid (faL_sum d hd0 xs)
      have hll := faL_length d xs
      generalize mkRat (-(faS xs)) d = q at *
      generalize faS xs = n at *
      have HOf := Lib.hid hOf
      have HR := Lib.hid hrow
      have HRL := Lib.hid hrl
      have HSH := Lib.hid hsh
      have HLL := Lib.hid hll
      clear hOf hrow hrl hsh hll
      go_wp2_with fail
      refine (HOf.out _).mono ?_
      intro e w2 hNR
      obtain ⟨r, rfl, hr2, x2⟩ := hNR.isCan
      clear hNR
      have hrow2 := HR.out.extend x2
      have hOff : Off r u6.ownBlock := off_fresh HR.out.own hr2.fa hr2.fb
      have hRat := hr2.isRat.mono hq2
      have hks := hr2.short hq2
      have hsz2 := x2.size
      have hEw := hrow2.ext
      have hEs := hEw.size
      have HROW := Lib.hid hrow2
      have HRAT := Lib.hid hRat
      have HOFF := Lib.hid hOff
      have HE := Lib.hid hEw
      clear hrow2 hRat hOff hEw hr2 hq2 HR
      go_upto_region 12 with (at_builtin; refine wpList_append_at _ rfl _ _ 48 rfl w.heap.size 55 (.agg zero3.toArray) 3 56 Tryz.underlying48 Tryz.info_rat rfl (by decide) u6 rs.length (ratCells rs) rfl ?d1 _ 1 1 r.cells rfl rfl ?d2 ?d3 ?d4 ?d5 (by decide) ?d6 ?_; rotate_right; intro v' w3 ho he hb hz hv)
      case d1 => exact ownsRow_ext HROW.out.own ((Ext.refl _).alloc _)
      case d2 =>
        intro _
        refine ⟨_, rfl, ?_⟩
        exact cells_new w2 55 r.cells
      case d3 => exact ratVals_one r
      case d4 => intro e; cases e
      case d5 => have := HRL.out; omega
      case d6 => simp; omega
      have xa : Ext w2 (w2.alloc (.cells #[.bool r.s, .slice r.a r.k r.c, .slice r.b r.j r.d] 55)) := (Ext.refl _).alloc _
      have hn := (HROW.out.extend xa).snoc (HRAT.out.ext xa) HOFF.out ho.out (he.out w (HE.out.trans xa) (Nat.le_refl _)) hb.out hv.out
      rw [HL.out] at hn
      have hS2 := HSH.out.snoc hks.1 hks.2
      have hl2 : (rs ++ [r]).length = xs.length + 1 := by simp [HRL.out]
      generalize rs ++ [r] = ys at *
      obtain ⟨a', c', rfl, hR⟩ := hn.rats (by omega)
      have hE3 := hn.ext
      clear hn HROW HRAT HOFF HE ho he hb hz hv xa HL hks hsz2 hEs x2 HSH HOf
      have hap := ap_main w3 a' c' 2 ys _ hR (by omega) (by omega) (by omega) (fun i hi => HOK.out _ (List.getElem_mem _)) (by rw [HSum.out]; exact (Rat.floor_intCast 0).symm ▸ rfl)
      have hol := HLaw.out.len
      rw [hR.len] at hol
      generalize hout : apOut (faL d xs) = out at *
      generalize faL d xs = qs at *
      have hS' : Calls Tryz.prog 33 #[.slice a' ys.length c'] w3 fun e w' => ∃ p, e = .returned (.tuple #[.slice (some ⟨p, 0, none⟩) ys.length ys.length, .int .i64 0]) ∧ Arr w' p 3 (i64s out) ∧ Ext w3 w' ∧ w3.heap.size ≤ p := by
        refine hap.mono ?_
        rintro e w' ⟨p, he, hp, hA, hx⟩
        rw [hol] at he
        exact ⟨p, he, hA, hx, hp⟩
      have HS := Lib.hid hS'
      have hyl : ys.length ≤ 41 := by omega
      have hy0 : 0 < ys.length := by omega
      have HOL := Lib.hid hol
      clear hap hS' hol hl2 HRL HLL HSum HOK hout
      go_wp2_with fail
      refine HS.out.mono ?_
      rintro e w4 ⟨p, rfl, hA4, x4, hp4⟩
      go_wp2_with fail
      refine (law40_awake _).mono ?_
      rintro e w5 ⟨rfl, x5⟩
      have hpl : p < w5.heap.size := Nat.lt_of_lt_of_le hA4.lt x5.size
      have hA5 := hA4.ext x5
      have hR5 := hR.ext (x4.trans x5)
      have hE5 := (hE3.trans x4).trans x5
      clear hA4 hR hE3 x4 x5 HS hp4
      have hle' := hR5.le
      have hcap' := hR5.cap
      go_upto_region 16 with (at_make; refine wpList_make_three _ rfl _ _ 48 rfl 55 (.agg zero3.toArray) 56 Tryz.underlying48 Tryz.info_rat rfl _ _ ys.length rfl rfl (by go_num) (by go_num) (by omega) (by omega) ?_; intro w6 hw6 hx6 hz6)
      obtain ⟨bp, hbp⟩ : ∃ bp, bp = w5.heap.size := ⟨_, rfl⟩
      obtain ⟨BB, hBB⟩ : ∃ BB, BB = w6.heap.size := ⟨_, rfl⟩
      have o5 : bp < BB := by have := hz6.out; omega
      have o1 := hE5.size
      have SI : Hid (FaAt w5 qs ys.length bp BB 0 w6) := ⟨[], rfl, Nat.zero_le _, by rw [hbp]; exact hw6.out, fun k hk => absurd hk (by simp), hx6, by omega⟩
      rw [← hbp]
      have o6 : w5.heap.size ≤ bp := by omega
      have o7 : p < bp := by omega
      clear hw6 hz6 hx6 hbp hBB
      go_wp2_with fail
      go_loopw [7, 13] (fun sm ii wr => ∃ i : Nat, FaAt w5 qs ys.length bp BB i wr ∧ sm = .int .i64 (isum (out.take i)) ∧ ii = .int .i64 i) (fun _ ii _ => ys.length - (intOf ii).toNat)
      case atStart => exact ⟨0, SI.out, rfl, rfl⟩
      case round =>
        obtain ⟨i, hAt, rfl, rfl⟩ := hrel
        obtain ⟨prs, hpl2, hi, aG, hcan, hx, hBw⟩ := hAt
        have hql := hR5.len
        obtain ⟨b1, b2⟩ := isum_take_bound' out 281474976710657 (by decide) (fun k hk => by have := (HB.out k (by rw [hql, ← HOL.out]; exact hk)).2; omega) i (by rw [HOL.out]; exact hi) (by rw [HOL.out]; exact hyl)
        by_cases hlt : i < ys.length
        · have hil : i < qs.length := by rw [hql]; exact hlt
          obtain ⟨b, o, rfl⟩ := hR5.at (by omega)
          obtain ⟨b', o', e', c0, c1, c2⟩ := hR5.cell i hlt
          cases e'
          obtain ⟨nn, mm, g1, g2, gq, gl1, gl2⟩ := hR5.num i hlt
          obtain ⟨ks1, ks2⟩ := hS2 i hlt
          have hqi : qs[i]?.getD 0 = qs[i]'hil := by rw [List.getElem?_eq_getElem hil]; rfl
          have g0 : w5.cell? ⟨p, i, none⟩ = some (.int .i64 (out[i]?.getD 0)) := by
            rw [hA5.cell, i64s_get _ _ (by rw [HOL.out]; exact hlt), List.getElem?_eq_getElem (by rw [HOL.out]; exact hlt)]; rfl
          have hSu : Hid (isum (out.take (i + 1)) = isum (out.take i) + out[i]?.getD 0) := Lib.hid (by
            rw [isum_take_succ _ _ (by rw [HOL.out]; exact hlt), List.getElem?_eq_getElem (by rw [HOL.out]; exact hlt)]; rfl)
          obtain ⟨⟨fb1, fb2⟩, ob1, ob2⟩ := HB.out i hil
          have hea := HLaw.out.each i hil
          have hFl := fun V (hV : Ext w5 V) => r3_Floor V ys[i].s _ _ _ _ _ _ _ _ (g1.ext hV) (g2.ext hV) (by omega) (by omega)
          have hSub := fun V (hV : Ext w5 V) (r : RVal) (B : Nat) (hr : IsCan V r (((qs[i]'hil).floor : Int) : Rat) B) (k1 : r.k < 200000) (k2 : r.j < 200000) => r3_Sub V ys[i].s _ _ _ _ _ _ _ _ (g1.ext hV) (g2.ext hV) r.s _ _ _ _ _ _ _ _ hr.num hr.den (by omega) (by omega) (by omega) (by omega)
          have hSub' : ∀ V, Ext w5 V → ∀ (r : RVal) (B : Nat), IsCan V r (((qs[i]'hil).floor : Int) : Rat) B → r.k < 200000 → r.j < 200000 → Calls Tryz.prog 42 #[.agg #[.bool ys[i].s, .slice ys[i].a ys[i].k ys[i].c, .slice ys[i].b ys[i].j ys[i].d], .agg #[.bool r.s, .slice r.a r.k r.c, .slice r.b r.j r.d]] V (NewRat ((qs[i]'hil) - (((qs[i]'hil).floor : Int) : Rat)) V) := by
            intro V hV r B hr k1 k2
            have h5 := hSub V hV r B hr k1 k2
            rw [← gq, hr.s, sgn_num, Rat.mkRat_self] at h5
            rw [hr.s]
            exact h5
          clear hSub
          rw [← gq] at hFl
          have hVal : ∀ V a c, Raw V a (len (qs[i]'hil).floor.natAbs) c (qs[i]'hil).floor.natAbs → Calls Tryz.prog 40 #[.agg #[.bool (decide ((qs[i]'hil).floor < 0)), .slice a (len (qs[i]'hil).floor.natAbs) c]] V fun e w' => e = .returned (.tuple #[.int .i64 (qs[i]'hil).floor, .bool true]) ∧ Ext V w' := by
            intro V a c hV
            have h5 := r2_Value V (decide ((qs[i]'hil).floor < 0)) a _ c _ hV (by rw [sgn_dec]; omega) (by rw [sgn_dec]; omega)
            rw [sgn_dec] at h5
            exact h5
          have hFI := fun V => r3_FromInt V (qs[i]'hil).floor (by omega) (by omega)
          have hrz : rsz (((qs[i]'hil).floor : Int) : Rat) ≤ 2 := by rw [rsz_int]; have := len_natAbs_i64 (z := (qs[i]'hil).floor) (by omega) (by omega); omega
          have hFl' : ∀ V, Ext w5 V → Calls Tryz.prog 41 #[.agg #[.bool ys[i].s, .slice ys[i].a ys[i].k ys[i].c, .slice ys[i].b ys[i].j ys[i].d]] V (IntOf (decide ((qs[i]'hil).floor < 0)) (qs[i]'hil).floor.natAbs V) := fun V hV => (hFl V hV).mono (fun _ _ hh => hh.intOf)
          clear hFl
          have HQI : Hid (qs[i]?.getD 0 = qs[i]'hil) := Lib.hid hqi
          clear hqi gq
          have hqz := (hR5.num i hlt).rsz
          have hfz : rsz ((qs[i]'hil) - (((qs[i]'hil).floor : Int) : Rat)) ≤ 5 := by have := rsz_sub (qs[i]'hil) (((qs[i]'hil).floor : Int) : Rat); omega
          have HF : Hid (qs[i]?.getD 0 - (((qs[i]?.getD 0).floor : Int) : Rat) = (qs[i]'hil) - (((qs[i]'hil).floor : Int) : Rat)) := Lib.hid (by rw [HQI.out])
          generalize (qs[i]'hil) - (((qs[i]'hil).floor : Int) : Rat) = f at *
          generalize (((qs[i]'hil).floor : Int) : Rat) = zr at *
          generalize decide ((qs[i]'hil).floor < 0) = sf at *
          generalize (qs[i]'hil).floor.natAbs = nf at *
          generalize (qs[i]'hil).floor = z at *
          generalize ys[i] = y at *
          generalize out[i]?.getD 0 = ou at *
          generalize isum (out.take i) = su at *
          have HFl := Lib.hid hFl'; have HSub := Lib.hid hSub'; have HVal := Lib.hid hVal; have HFI := Lib.hid hFI; have HEA := Lib.hid hea
          clear hFl' hSub' hVal hFI hea g1 g2 gl1 gl2 HQI hqz
          have bi0 : (0 : Int) ≤ (i : Int) := by omega
          have bi1 : (i : Int) < (ys.length : Int) := by omega
          have c0' := cell_ext hx c0
          have c1' := cell_ext hx c1
          have c2' := cell_ext hx c2
          go_wp2_with fail
          refine (HFl.out _ hx).mono ?_
          rintro e w7 ⟨a7, c7, rfl, r7, f7, x7⟩
          clear c0' c1' c2'
          go_wp2_with fail
          refine (HVal.out _ _ _ r7).mono ?_
          rintro e w8 ⟨rfl, x8⟩
          clear r7 f7
          go_wp2_with fail
          have v8 : Ext w5 w8 := (hx.trans x7).trans x8
          have hk : w8.drew.cell? ⟨b, o + i * 3, none⟩ = some (.bool y.s) ∧ w8.drew.cell? ⟨b, o + i * 3 + 1, none⟩ = some (.slice y.a y.k y.c) ∧ w8.drew.cell? ⟨b, o + i * 3 + 2, none⟩ = some (.slice y.b y.j y.d) := ⟨cell_ext v8.drew c0, cell_ext v8.drew c1, cell_ext v8.drew c2⟩
          have hpc : (ratCells prs).length = i * 3 := by rw [ratCells_length, hpl2]
          obtain ⟨m, hm⟩ : ∃ m, ys.length - i = m + 1 := ⟨ys.length - i - 1, by omega⟩
          have hm' : ys.length - (i + 1) = m := by omega
          rw [hm] at aG
          have HPC := Lib.hid hpc
          have HM := Lib.hid hm
          have HM' := Lib.hid hm'
          clear hpc hm hm'
          have zb : b < w5.heap.size := block_lt c0
          go_region_held3 (fun w' => w'.cell? ⟨b, o + i * 3, none⟩ = some (.bool y.s) ∧ w'.cell? ⟨b, o + i * 3 + 1, none⟩ = some (.slice y.a y.k y.c) ∧ w'.cell? ⟨b, o + i * 3 + 2, none⟩ = some (.slice y.b y.j y.d)) (first | with_reducible exact hk | (obtain ⟨q0, q1, q2⟩ := hk; refine ⟨cell_setN q0 ?_, cell_setN q1 ?_, cell_setN q2 ?_⟩ <;> (simp only; omega))) (first
            | (go_at_call 32; refine (HFI.out _).mono ?_; intro e w9 hN; obtain ⟨r9, rfl, hr9, x9⟩ := hN.isCan; clear hN; have v9 : Ext w5 w9 := v8.drew.trans x9; have hk : w9.cell? ⟨b, o + i * 3, none⟩ = some (.bool y.s) ∧ w9.cell? ⟨b, o + i * 3 + 1, none⟩ = some (.slice y.a y.k y.c) ∧ w9.cell? ⟨b, o + i * 3 + 2, none⟩ = some (.slice y.b y.j y.d) := ⟨cell_ext v9 c0, cell_ext v9 c1, cell_ext v9 c2⟩)
            | (go_at_call 42; refine (HSub.out _ v9 _ _ hr9 (Nat.lt_of_le_of_lt (hr9.short hrz).1 (by decide)) (Nat.lt_of_le_of_lt (hr9.short hrz).2 (by decide))).mono ?_; intro e w10 hN; obtain ⟨r10, rfl, hr10, x10⟩ := hN.isCan; clear hN; have v10 : Ext w5 w10 := v9.trans x10; have u10 : Ext wr w10 := (((x7.trans x8).drew).trans x9).trans x10; have hk : w10.cell? ⟨b, o + i * 3, none⟩ = some (.bool y.s) ∧ w10.cell? ⟨b, o + i * 3 + 1, none⟩ = some (.slice y.a y.k y.c) ∧ w10.cell? ⟨b, o + i * 3 + 2, none⟩ = some (.slice y.b y.j y.d) := ⟨cell_ext v10 c0, cell_ext v10 c1, cell_ext v10 c2⟩; obtain ⟨p0, p1, p2, p3, p4, p5⟩ := zero_at (aG.ext u10) HPC.out))
          have sz10 := u10.size
          have C2 : Arr (((w10.setCell ⟨bp, i * 3, none⟩ (.bool r10.s)).setCell ⟨bp, i * 3 + 1, none⟩ (.slice r10.a r10.k r10.c)).setCell ⟨bp, i * 3 + 2, none⟩ (.slice r10.b r10.j r10.d)) bp 55 (ratCells (prs ++ [r10]) ++ zeros3 m) := by
            have h5 := (((aG.ext u10).set (i * 3) (.bool r10.s)).set (i * 3 + 1) (.slice r10.a r10.k r10.c)).set (i * 3 + 2) (.slice r10.b r10.j r10.d)
            have h6 := fill3 (ratCells prs) m (.bool r10.s) (.slice r10.a r10.k r10.c) (.slice r10.b r10.j r10.d)
            rw [HPC.out] at h6
            rw [h6] at h5
            rw [ratCells_snoc]
            exact h5
          have sz9 := x9.size
          have sz7 := (x7.trans x8).size
          have C6 := fun k hk => ((((hcan k hk).ext u10).setCell ⟨bp, i * 3, none⟩ (.bool r10.s) (by simp only; omega)).setCell ⟨bp, i * 3 + 1, none⟩ (.slice r10.a r10.k r10.c) (by simp only; omega)).setCell ⟨bp, i * 3 + 2, none⟩ (.slice r10.b r10.j r10.d) (by simp only; omega)
          have C6' := (((hr10.mono (show BB ≤ w9.heap.size by have e1 : w8.drew.heap.size = w8.heap.size := rfl
                                                              omega)).setCell ⟨bp, i * 3, none⟩ (.bool r10.s) (by simp only; omega)).setCell ⟨bp, i * 3 + 1, none⟩ (.slice r10.a r10.k r10.c) (by simp only; omega)).setCell ⟨bp, i * 3 + 2, none⟩ (.slice r10.b r10.j r10.d) (by simp only; omega)
          have C7 : Ext w5 (((w10.setCell ⟨bp, i * 3, none⟩ (.bool r10.s)).setCell ⟨bp, i * 3 + 1, none⟩ (.slice r10.a r10.k r10.c)).setCell ⟨bp, i * 3 + 2, none⟩ (.slice r10.b r10.j r10.d)) := (((v10.setCell (by simp only; omega) _).setCell (by simp only; omega) _).setCell (by simp only; omega) _)
          have C8 : BB ≤ (((w10.setCell ⟨bp, i * 3, none⟩ (.bool r10.s)).setCell ⟨bp, i * 3 + 1, none⟩ (.slice r10.a r10.k r10.c)).setCell ⟨bp, i * 3 + 2, none⟩ (.slice r10.b r10.j r10.d)).heap.size := by simp [World.setCell]; omega
          generalize hX : (((w10.setCell ⟨bp, i * 3, none⟩ (.bool r10.s)).setCell ⟨bp, i * 3 + 1, none⟩ (.slice r10.a r10.k r10.c)).setCell ⟨bp, i * 3 + 2, none⟩ (.slice r10.b r10.j r10.d)) = X at *
          clear hX hk p0 p1 p2 p3 p4 p5 aG
          have HD : Hid (FaAt w5 qs ys.length bp BB (i + 1) X) := by
            refine ⟨prs ++ [r10], by simp [hpl2], by omega, by rw [HM'.out]; exact C2, ?_, C7, C8⟩
            intro k hk
            by_cases hki : k < prs.length
            · rw [List.getElem_append_left hki]; exact C6 k hki
            · have hk' : k = i := by simp at hk; omega
              subst hk'
              rw [List.getElem_append_right (by omega)]
              simp only [hpl2, Nat.sub_self, List.getElem_cons_zero]
              rw [HF.out]
              exact C6'
          have kk10 := hr10.short hfz
          have hSg := fun V (hV : Ext X V) => r3_Sign V r10.s _ _ _ _ _ _ _ _ (C6'.num.ext hV) (C6'.den.ext hV) (by omega) (by omega)
          rw [C6'.s, sgn_num, Rat.mkRat_self, ← C6'.s] at hSg
          have hsz0 : ¬ f = 0 → (f.num.sign == 0) = false := by
            intro h0
            rw [beq_eq_false_iff_ne]
            exact fun e => h0 (sign_zero_iff.1 e)
          have HSZ := Lib.hid hsz0
          have HSG := Lib.hid hSg
          clear hSg hsz0
          have g0' := cell_ext C7 g0
          have pc : ∀ k, k < 3 → X.cell? ⟨bp, i * 3 + k, none⟩ = (r10.cells)[k]? := by
            intro k hk
            rw [C2.cell, List.getElem?_append_left (by rw [ratCells_length, List.length_append, hpl2]; simp; omega)]
            have h5 := ratCells_get (prs ++ [r10]) i k (by simp [hpl2]) hk
            rw [List.getElem_append_right (by omega)] at h5
            simpa [hpl2] using h5
          have q0 : X.cell? ⟨bp, i * 3, none⟩ = some (.bool r10.s) := pc 0 (by omega)
          have q1 : X.cell? ⟨bp, i * 3 + 1, none⟩ = some (.slice r10.a r10.k r10.c) := pc 1 (by omega)
          have q2 : X.cell? ⟨bp, i * 3 + 2, none⟩ = some (.slice r10.b r10.j r10.d) := pc 2 (by omega)
          clear C2 C6 C6' pc hcan hr10 hr9
          rcases HEA.out with e | ⟨e, hf0⟩
          · subst e
            go_wp2_with fail
            go_roundw
            case rel => exact ⟨i + 1, HD.out, by rw [hSu.out], by go_num⟩
            case measure => simp [intOf] <;> omega
          · subst e
            have t1 : ((z + 1) != z) = true := by simp; omega
            have t2 : ((z + 1) != (z + 1)) = false := by simp
            have t3 := HSZ.out hf0
            generalize f.num.sign = sg at *
            go_wp2_with fail
            refine (HSG.out _ (Ext.refl _)).mono ?_
            rintro e w11 ⟨rfl, x11⟩
            go_wp2_with fail
            go_roundw
            case rel => exact ⟨i + 1, HD.out.extend x11, by rw [hSu.out], by go_num⟩
            case measure => simp [intOf] <;> omega
        · obtain rfl : i = ys.length := by omega
          have e1 : isum (out.take ys.length) = 0 := by rw [← HLaw.out.sum, ← HOL.out, List.take_length]
          rw [e1]
          clear e1
          rw [Nat.sub_self] at aG
          have hfl : (fracs qs).length = ys.length := by simp [fracs, hql]
          have hPt : Rats wr (some ⟨bp, 0, none⟩) ys.length prs (fracs qs) 5 := by
            refine ⟨by rw [hfl, hpl2], by omega, by omega, by omega, fun k hk => ⟨bp, 0, rfl, ?_, ?_, ?_⟩, fun k hk => ?_⟩
            · rw [Nat.zero_add, aG.cell, List.getElem?_append_left (by rw [ratCells_length]; omega)]; exact ratCells_get prs k 0 hk (by decide)
            · rw [Nat.zero_add, aG.cell, List.getElem?_append_left (by rw [ratCells_length]; omega)]; exact ratCells_get prs k 1 hk (by decide)
            · rw [Nat.zero_add, aG.cell, List.getElem?_append_left (by rw [ratCells_length]; omega)]; exact ratCells_get prs k 2 hk (by decide)
            · have h5 := (hcan k hk).isRat
              have hkq : k < qs.length := by rw [hql]; omega
              rw [List.getElem?_eq_getElem hkq, Option.getD_some] at h5
              have e6 : (fracs qs)[k]'(by rw [hfl]; omega) = qs[k] - ((qs[k].floor : Int) : Rat) := by simp [fracs]
              rw [e6]
              refine h5.mono ?_
              exact frac_short (hR5.num k (by omega)).rsz (HB.out k hkq).1
          have hPs : RShort prs 5 := by
            intro k hk
            have hkq : k < qs.length := by rw [hql]; omega
            refine (hcan k hk).short ?_
            rw [List.getElem?_eq_getElem hkq, Option.getD_some]
            exact frac_short (hR5.num k (by omega)).rsz (HB.out k hkq).1
          have hRw := hR5.ext hx
          have hAw := hA5.ext hx
          have hEw := hE5.trans hx
          obtain ⟨W6, rfl⟩ : ∃ W6 : World, W6 = wr := ⟨_, rfl⟩
          have HPL := Lib.hid hpl2
          clear aG hcan hR5 hA5 hx hE5 hBw b1 b2 hpl2 SI o5 o6 o7 hfl
          have hF : ∀ i, i < ys.length → ∀ V, Calls Tryz.prog 32 #[.int .i64 (out[i]?.getD 0)] V (NewRat ((out[i]?.getD 0 : Int) : Rat) V) := fun i hi V => by
            have h5 := (HB.out i (by rw [hql]; exact hi)).2
            exact r3_FromInt V _ (by omega) (by omega)
          have hC : ∀ i (hi : i < ys.length) V, Ext W6 V → ∀ (r : RVal) (B : Nat), IsCan V r ((out[i]?.getD 0 : Int) : Rat) B → Calls Tryz.prog 28 #[.agg #[.bool r.s, .slice r.a r.k r.c, .slice r.b r.j r.d], .agg #[.bool ys[i].s, .slice ys[i].a ys[i].k ys[i].c, .slice ys[i].b ys[i].j ys[i].d]] V (fun e w' => e = .returned (.int .i64 (cmpQ ((out[i]?.getD 0 : Int) : Rat) (qs[i]?.getD 0))) ∧ Ext V w') := by
            intro i hi V hV r B hr
            have hil : i < qs.length := by rw [hql]; exact hi
            obtain ⟨nn, mm, g1, g2, gq, gl1, gl2⟩ := hRw.num i hi
            obtain ⟨ks1, ks2⟩ := hS2 i hi
            have hob := (HB.out i hil).2
            have hz2 : rsz ((out[i]?.getD 0 : Int) : Rat) ≤ 2 := by rw [rsz_int]; have := len_natAbs_i64 (z := out[i]?.getD 0) (by omega) (by omega); omega
            have hks := hr.short hz2
            have h5 := r3_Compare V r.s _ _ _ _ _ _ _ _ hr.num hr.den ys[i].s _ _ _ _ _ _ _ _ (g1.ext hV) (g2.ext hV) (by omega) (by omega) (by omega) (by omega)
            rw [← gq, hr.s, sgn_num, Rat.mkRat_self] at h5
            rw [List.getElem?_eq_getElem hil, Option.getD_some, hr.s]
            exact h5
          have hP : ∀ i k (hi : i < ys.length) (hk : k < ys.length) V, Ext W6 V → Calls Tryz.prog 28 #[.agg #[.bool (prs[i]'(by rw [HPL.out]; exact hi)).s, .slice (prs[i]'(by rw [HPL.out]; exact hi)).a (prs[i]'(by rw [HPL.out]; exact hi)).k (prs[i]'(by rw [HPL.out]; exact hi)).c, .slice (prs[i]'(by rw [HPL.out]; exact hi)).b (prs[i]'(by rw [HPL.out]; exact hi)).j (prs[i]'(by rw [HPL.out]; exact hi)).d], .agg #[.bool (prs[k]'(by rw [HPL.out]; exact hk)).s, .slice (prs[k]'(by rw [HPL.out]; exact hk)).a (prs[k]'(by rw [HPL.out]; exact hk)).k (prs[k]'(by rw [HPL.out]; exact hk)).c, .slice (prs[k]'(by rw [HPL.out]; exact hk)).b (prs[k]'(by rw [HPL.out]; exact hk)).j (prs[k]'(by rw [HPL.out]; exact hk)).d]] V (fun e w' => e = .returned (.int .i64 (cmpQ ((fracs qs)[i]?.getD 0) ((fracs qs)[k]?.getD 0))) ∧ Ext V w') := by
            intro i k hi hk V hV
            have hi' : i < prs.length := by rw [HPL.out]; exact hi
            have hk' : k < prs.length := by rw [HPL.out]; exact hk
            obtain ⟨n1, m1, g1, g2, gq, gl1, gl2⟩ := hPt.num i hi'
            obtain ⟨n2, m2, f1, f2, fq, fl1, fl2⟩ := hPt.num k hk'
            obtain ⟨ks1, ks2⟩ := hPs i hi'
            obtain ⟨ks3, ks4⟩ := hPs k hk'
            have h5 := r3_Compare V prs[i].s _ _ _ _ _ _ _ _ (g1.ext hV) (g2.ext hV) prs[k].s _ _ _ _ _ _ _ _ (f1.ext hV) (f2.ext hV) (by omega) (by omega) (by omega) (by omega)
            rw [← gq, ← fq] at h5
            rw [List.getElem?_eq_getElem (by rw [hPt.len]; exact hi'), List.getElem?_eq_getElem (by rw [hPt.len]; exact hk'), Option.getD_some, Option.getD_some]
            exact h5
          have hT : ∀ i k, i < ys.length → k < ys.length → FaTest i k (cmpQ ((out[i]?.getD 0 : Int) : Rat) (qs[i]?.getD 0)) (cmpQ ((out[k]?.getD 0 : Int) : Rat) (qs[k]?.getD 0)) (cmpQ ((fracs qs)[i]?.getD 0) ((fracs qs)[k]?.getD 0)) := by
            intro i k hi hk
            exact fa_test HLaw.out i k (by rw [hql]; exact hi) (by rw [hql]; exact hk)
          have HF := Lib.hid hF; have HC := Lib.hid hC; have HPP := Lib.hid hP; have HT := Lib.hid hT
          clear hF hC hP hT hql
          go_wp2_with fail
          go_loopw [16] (fun ii wr => ∃ i : Nat, i ≤ ys.length ∧ Ext W6 wr ∧ ii = .int .i64 i) (fun ii _ => ys.length - (intOf ii).toNat)
          case atStart => exact ⟨0, Nat.zero_le _, Ext.refl _, rfl⟩
          case round =>
            obtain ⟨i, hi, hX, rfl⟩ := hrel
            obtain ⟨wl, rfl⟩ : ∃ wl : World, wl = wr := ⟨_, rfl⟩
            by_cases hlt : i < ys.length
            · obtain ⟨b, o, rfl⟩ := hRw.at (by omega)
              go_wp2_with fail
              go_loopw [17] (fun kk wq => ∃ q : Nat, q ≤ ys.length ∧ Ext wl wq ∧ kk = .int .i64 q) (fun kk _ => ys.length - (intOf kk).toNat)
              case atStart => exact ⟨0, Nat.zero_le _, Ext.refl _, rfl⟩
              case round =>
                obtain ⟨q, hq, hY, rfl⟩ := hrel
                obtain ⟨wq, rfl⟩ : ∃ wq : World, wq = wr := ⟨_, rfl⟩
                by_cases hlq : q < ys.length
                · obtain ⟨b1, o1, e1, c0, c1, c2⟩ := hRw.cell i hlt
                  cases e1
                  obtain ⟨b1, o1, e1, d0, d1, d2⟩ := hRw.cell q hlq
                  cases e1
                  have hlt' : i < prs.length := by rw [HPL.out]; exact hlt
                  have hlq' : q < prs.length := by rw [HPL.out]; exact hlq
                  obtain ⟨b1, o1, e1, s0, s1, s2⟩ := hPt.cell i hlt'
                  cases e1
                  obtain ⟨b1, o1, e1, t0, t1, t2⟩ := hPt.cell q hlq'
                  cases e1
                  rw [Nat.zero_add] at s0 s1 s2 t0 t1 t2
                  have g0 : W6.cell? ⟨p, i, none⟩ = some (.int .i64 (out[i]?.getD 0)) := by
                    rw [hAw.cell, i64s_get _ _ (by rw [HOL.out]; exact hlt), List.getElem?_eq_getElem (by rw [HOL.out]; exact hlt)]; rfl
                  have g1 : W6.cell? ⟨p, q, none⟩ = some (.int .i64 (out[q]?.getD 0)) := by
                    rw [hAw.cell, i64s_get _ _ (by rw [HOL.out]; exact hlq), List.getElem?_eq_getElem (by rw [HOL.out]; exact hlq)]; rfl
                  have hF1 := HF.out i hlt
                  have hF2 := HF.out q hlq
                  have hC1 := HC.out i hlt
                  have hC2 := HC.out q hlq
                  have hP1 := HPP.out i q hlt hlq
                  have hT1 := HT.out i q hlt hlq
                  generalize cmpQ ((out[i]?.getD 0 : Int) : Rat) (qs[i]?.getD 0) = cu at *
                  generalize cmpQ ((out[q]?.getD 0 : Int) : Rat) (qs[q]?.getD 0) = cv at *
                  generalize cmpQ ((fracs qs)[i]?.getD 0) ((fracs qs)[q]?.getD 0) = ct at *
                  generalize out[i]?.getD 0 = ou at *
                  generalize out[q]?.getD 0 = oq at *
                  generalize ys[i] = y at *
                  generalize ys[q] = y' at *
                  generalize prs[i] = ta at *
                  generalize prs[q] = tb at *
                  have HK : Hid (∀ w', Ext W6 w' → w'.cell? ⟨p, i, none⟩ = some (.int .i64 ou) ∧ w'.cell? ⟨p, q, none⟩ = some (.int .i64 oq) ∧ w'.cell? ⟨b, o + i * 3, none⟩ = some (.bool y.s) ∧ w'.cell? ⟨b, o + i * 3 + 1, none⟩ = some (.slice y.a y.k y.c) ∧ w'.cell? ⟨b, o + i * 3 + 2, none⟩ = some (.slice y.b y.j y.d) ∧ w'.cell? ⟨b, o + q * 3, none⟩ = some (.bool y'.s) ∧ w'.cell? ⟨b, o + q * 3 + 1, none⟩ = some (.slice y'.a y'.k y'.c) ∧ w'.cell? ⟨b, o + q * 3 + 2, none⟩ = some (.slice y'.b y'.j y'.d)) := Lib.hid (fun V hV => ⟨cell_ext hV g0, cell_ext hV g1, cell_ext hV c0, cell_ext hV c1, cell_ext hV c2, cell_ext hV d0, cell_ext hV d1, cell_ext hV d2⟩)
                  have HK2 : Hid (∀ w', Ext W6 w' → w'.cell? ⟨bp, i * 3, none⟩ = some (.bool ta.s) ∧ w'.cell? ⟨bp, i * 3 + 1, none⟩ = some (.slice ta.a ta.k ta.c) ∧ w'.cell? ⟨bp, i * 3 + 2, none⟩ = some (.slice ta.b ta.j ta.d) ∧ w'.cell? ⟨bp, q * 3, none⟩ = some (.bool tb.s) ∧ w'.cell? ⟨bp, q * 3 + 1, none⟩ = some (.slice tb.a tb.k tb.c) ∧ w'.cell? ⟨bp, q * 3 + 2, none⟩ = some (.slice tb.b tb.j tb.d)) := Lib.hid (fun V hV => ⟨cell_ext hV s0, cell_ext hV s1, cell_ext hV s2, cell_ext hV t0, cell_ext hV t1, cell_ext hV t2⟩)
                  clear g0 g1 c0 c1 c2 d0 d1 d2 s0 s1 s2 t0 t1 t2
                  have HF1 := Lib.hid hF1; have HF2 := Lib.hid hF2; have HC1 := Lib.hid hC1; have HC2 := Lib.hid hC2; have HP1 := Lib.hid hP1; have HT1 := Lib.hid hT1
                  clear hF1 hF2 hC1 hC2 hP1 hT1
                  have bi0 : (0 : Int) ≤ (i : Int) := by omega
                  have bi1 : (i : Int) < (ys.length : Int) := by omega
                  have bq0 : (0 : Int) ≤ (q : Int) := by omega
                  have bq1 : (q : Int) < (ys.length : Int) := by omega
                  have v0 : Ext W6 wq.drew := (hX.trans hY).drew
                  have hk := HK.out _ v0
                  go_wp2_with fail
                  go_region_held3 (fun w' => w'.cell? ⟨p, i, none⟩ = some (.int .i64 ou) ∧ w'.cell? ⟨p, q, none⟩ = some (.int .i64 oq) ∧ w'.cell? ⟨b, o + i * 3, none⟩ = some (.bool y.s) ∧ w'.cell? ⟨b, o + i * 3 + 1, none⟩ = some (.slice y.a y.k y.c) ∧ w'.cell? ⟨b, o + i * 3 + 2, none⟩ = some (.slice y.b y.j y.d) ∧ w'.cell? ⟨b, o + q * 3, none⟩ = some (.bool y'.s) ∧ w'.cell? ⟨b, o + q * 3 + 1, none⟩ = some (.slice y'.a y'.k y'.c) ∧ w'.cell? ⟨b, o + q * 3 + 2, none⟩ = some (.slice y'.b y'.j y'.d)) (exact hk) (first
                    | (go_at_call 32; (with_reducible refine (HF1.out _).mono ?_); intro e w1 hN; obtain ⟨r1, rfl, hr1, x1⟩ := hN.isCan; clear hN; have v1 := v0.trans x1; have hk := HK.out _ v1)
                    | (go_at_call 28; (with_reducible refine (HC1.out _ v1 _ _ hr1).mono ?_); rintro e w2 ⟨rfl, x2⟩; have v2 := v1.trans x2; have hk := HK.out _ v2)
                    | (go_at_call 32; (with_reducible refine (HF2.out _).mono ?_); intro e w3' hN; obtain ⟨r3, rfl, hr3, x3⟩ := hN.isCan; clear hN; have v3 := v2.trans x3; have hk := HK.out _ v3)
                    | (go_at_call 28; (with_reducible refine (HC2.out _ v3 _ _ hr3).mono ?_); rintro e w4' ⟨rfl, x4⟩; have v4 := v3.trans x4; have hk := HK.out _ v4))
                  have z4 : Ext wl w4' := ((((hY.drew).trans x1).trans x2).trans x3).trans x4
                  clear hk x1 x2 x3 x4 v0 v1 v2 v3 hr1 hr3
                  go_wp2_with fail
                  have v5 := v4.drew
                  have hk := HK2.out _ v5
                  go_region_held3 (fun w' => w'.cell? ⟨bp, i * 3, none⟩ = some (.bool ta.s) ∧ w'.cell? ⟨bp, i * 3 + 1, none⟩ = some (.slice ta.a ta.k ta.c) ∧ w'.cell? ⟨bp, i * 3 + 2, none⟩ = some (.slice ta.b ta.j ta.d) ∧ w'.cell? ⟨bp, q * 3, none⟩ = some (.bool tb.s) ∧ w'.cell? ⟨bp, q * 3 + 1, none⟩ = some (.slice tb.a tb.k tb.c) ∧ w'.cell? ⟨bp, q * 3 + 2, none⟩ = some (.slice tb.b tb.j tb.d)) (exact hk) (first
                    | (go_at_call 28; (with_reducible refine (HP1.out _ v5).mono ?_); rintro e w6' ⟨rfl, x6⟩; have v6 := v5.trans x6; have hk := HK2.out _ v6))
                  have z6 : Ext wl w6' := z4.drew.trans x6
                  clear hk x6 v5 v4
                  rcases HT1.out with e1 | ⟨e1, e2⟩ | ⟨e1, e2, e3, e4⟩ | ⟨e1, e2, e3, e4, e5⟩
                  all_goals go_wp2_with fail
                  all_goals exact ⟨⟨q + 1, by omega, z6, by go_num⟩, by simp only [intOf]; omega⟩
                · obtain rfl : q = ys.length := by omega
                  go_wp2_with fail
                  go_roundw
                  case rel => exact ⟨i + 1, by omega, hX.trans hY, by go_num⟩
                  case measure => simp [intOf] <;> omega
            · obtain rfl : i = ys.length := by omega
              go_wp2_with fail
              go_ret
              exact ⟨rfl, hEw.trans hX⟩

/-- SettlementFair returns true. -/
theorem law40_SettlementFair (w : World) (D : Int) (a : Option Addr) (c : Nat) (xs : List Int) (h : IntIn w a c xs) (hD1 : -9223372036854775808 ≤ D) (hD2 : D < 9223372036854775808) :
    Calls Tryz.prog 8 #[.slice a xs.length c, .int .i64 D] w fun e w' => e = .returned (.bool true) ∧ Ext w w' := by
  by_cases hs : xs.length ≤ 40
  · exact law40_fair w D a c xs h hD1 hD2 hs
  · have := h.le
    have := h.cap
    exact law40_long w D a xs.length c (by omega) (by omega)

end Go.Proofs.YtgihpfkjpfanmaaGreat
