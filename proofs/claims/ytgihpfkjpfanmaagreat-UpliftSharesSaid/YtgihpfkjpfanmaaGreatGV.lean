/- Texts of the proof: Sb1, Sb2, Sb3, Sb4. -/
import Derived.Test.YtgihpfkjpfanmaaGreatGU
/- uplift.Share: its errors 8 and 3. -/
namespace Go.Proofs.YtgihpfkjpfanmaaGreat
open Go.RowKit

set_option maxRecDepth 100000 in
/-- Too many weights, or too great a total. -/
theorem share_lim (w : World) (T : Int) (a : Option Addr) (k c : Nat) (hs : k ≤ 1099511627776) (h : 128 < k ∨ 281474976710656 < T ∨ T < -281474976710656) :
    Calls Tryz.prog 45 #[.int .i64 T, .slice a k c] w fun e w' => e = .returned (.tuple #[.slice none 0 0, .int .i64 8]) ∧ w = w' := by
  have hz : decide ((128 : Int) < (k : Int)) = true ∨ (decide ((128 : Int) < (k : Int)) = false ∧ decide ((281474976710656 : Int) < T) = true) ∨ (decide ((128 : Int) < (k : Int)) = false ∧ decide ((281474976710656 : Int) < T) = false ∧ decide (T < (-281474976710656 : Int)) = true) := by
    by_cases h1 : 128 < k
    · exact Or.inl (by simp; omega)
    · by_cases h2 : 281474976710656 < T
      · exact Or.inr (Or.inl ⟨by simp; omega, by simpa using h2⟩)
      · exact Or.inr (Or.inr ⟨by simp; omega, by simpa using h2, by simp; omega⟩)
  clear h
  rcases hz with d1 | ⟨d1, d2⟩ | ⟨d1, d2, d3⟩
  all_goals
    go_enter Tryz.func45, Tryz.ntmps45
    go_wp2_with fail
    go_ret2
    exact ⟨rfl, rfl⟩

set_option maxHeartbeats 2000000 in
set_option maxRecDepth 100000 in
/-- A weight is negative. -/
theorem share_neg (w : World) (T : Int) (a : Option Addr) (c L : Nat) (rs : List RVal) (qs : List Rat) (h : Rats w a c rs qs L) (hn : rs.length ≤ 128) (hT1 : -281474976710656 ≤ T) (hT2 : T ≤ 281474976710656) (jb : Nat) (hjb : jb < rs.length) (hpos : ∀ i (hi : i < jb), 0 ≤ (qs[i]'(by rw [h.len]; omega))) (hbad : (qs[jb]'(by rw [h.len]; exact hjb)) < 0) :
    Calls Tryz.prog 45 #[.int .i64 T, .slice a rs.length c] w fun e w' => e = .returned (.tuple #[.slice none 0 0, .int .i64 3]) ∧ Ext w w' := by
  have hle := h.le
  have hcap := h.cap
  have hsh := h.short
  have d1 : decide ((281474976710656 : Int) < T) = false := by simp; omega
  have d2 : decide (T < (-281474976710656 : Int)) = false := by simp; omega
  have d3 : decide ((128 : Int) < (rs.length : Int)) = false := by simp; omega
  go_enter Tryz.func45, Tryz.ntmps45
  go_wp2_with fail
  go_loopw [26] (fun ii wr => ∃ j : Nat, j ≤ jb ∧ Ext w wr ∧ ii = .int .i64 j) (fun ii _ => rs.length - (intOf ii).toNat)
  case atStart => exact ⟨0, Nat.zero_le _, Ext.refl _, rfl⟩
  case round =>
    obtain ⟨j, hj, hE, rfl⟩ := hrel
    have hlt : j < rs.length := by omega
    have hq := h.ext hE
    obtain ⟨b, o, rfl⟩ := h.at (by omega)
    obtain ⟨b', o', e', c0, c1, c2⟩ := hq.cell j hlt
    cases e'
    obtain ⟨n2, m2', g1, g2, gq, gl1, gl2⟩ := hq.num j hlt
    have hSg := fun V (hV : Ext wr V) => rat_Sign V rs[j].s _ _ _ _ _ _ _ _ (g1.ext hV) (g2.ext hV)
    rw [← gq] at hSg
    have hz : (j < jb ∧ decide ((qs[j]'(by rw [h.len]; exact hlt)).num.sign < 0) = false) ∨ decide ((qs[j]'(by rw [h.len]; exact hlt)).num.sign < 0) = true := by
      by_cases hjj : j < jb
      · exact Or.inl ⟨hjj, decide_eq_false (fun hh => absurd (num_sign_neg.1 hh) (Rat.not_lt.2 (hpos j hjj)))⟩
      · obtain rfl : j = jb := by omega
        exact Or.inr (decide_eq_true (num_sign_neg.2 hbad))
    generalize (qs[j]'(by rw [h.len]; exact hlt)).num.sign = z at hSg hz
    have HSg := Lib.hid hSg
    have HZ := Lib.hid hz
    clear hSg gq hz hq
    generalize rs[j] = y at *
    go_upto_region 6 with fail
    obtain ⟨V, hV, xv, Zv, Av⟩ := boxes1 wr 55 [.bool y.s, .slice y.a y.k y.c, .slice y.b y.j y.d]
    rw [← hV]
    clear hV c0 c1 c2
    obtain ⟨m0, m1, m2, -, -, -⟩ := box3 Av (Ext.refl _)
    go_wp2_with fail
    refine (HSg.out _ xv).mono ?_
    rintro e w2 ⟨rfl, x2⟩
    rcases HZ.out with ⟨hjj, z1⟩ | z1
    · go_wp2_with fail
      go_roundw
      case rel => exact ⟨j + 1, by omega, (hE.trans xv).trans x2, by go_num⟩
      case measure => simp [intOf] <;> omega
    · go_wp2_with fail
      go_ret2
      exact ⟨rfl, (hE.trans xv).trans x2⟩

end Go.Proofs.YtgihpfkjpfanmaaGreat

/- ref40.Share: its errors. -/
namespace Go.Proofs.YtgihpfkjpfanmaaGreat
open Go.RowKit

set_option maxRecDepth 100000 in
theorem r40_share_lim (w : World) (T : Int) (a : Option Addr) (k c : Nat) (hs : k ≤ 1099511627776) (h : 128 < k ∨ 281474976710656 < T ∨ T < -281474976710656) :
    Calls Tryz.prog 46 #[.int .i64 T, .slice a k c] w fun e w' => e = .returned (.tuple #[.slice none 0 0, .int .i64 8]) ∧ w = w' := by
  have hz : decide ((128 : Int) < (k : Int)) = true ∨ (decide ((128 : Int) < (k : Int)) = false ∧ decide ((281474976710656 : Int) < T) = true) ∨ (decide ((128 : Int) < (k : Int)) = false ∧ decide ((281474976710656 : Int) < T) = false ∧ decide (T < (-281474976710656 : Int)) = true) := by
    by_cases h1 : 128 < k
    · exact Or.inl (by simp; omega)
    · by_cases h2 : 281474976710656 < T
      · exact Or.inr (Or.inl ⟨by simp; omega, by simpa using h2⟩)
      · exact Or.inr (Or.inr ⟨by simp; omega, by simpa using h2, by simp; omega⟩)
  clear h
  rcases hz with d1 | ⟨d1, d2⟩ | ⟨d1, d2, d3⟩
  all_goals
    go_enter Tryz.func46, Tryz.ntmps46
    go_wp2_with fail
    go_ret2
    exact ⟨rfl, rfl⟩

set_option maxHeartbeats 2000000 in
set_option maxRecDepth 100000 in
/-- A weight is negative. -/
theorem r40_share_neg (w : World) (T : Int) (a : Option Addr) (c L : Nat) (rs : List RVal) (qs : List Rat) (h : Rats w a c rs qs L) (hn : rs.length ≤ 128) (hK : RShort rs 1000) (hT1 : -281474976710656 ≤ T) (hT2 : T ≤ 281474976710656) (jb : Nat) (hjb : jb < rs.length) (hpos : ∀ i (hi : i < jb), 0 ≤ (qs[i]'(by rw [h.len]; omega))) (hbad : (qs[jb]'(by rw [h.len]; exact hjb)) < 0) :
    Calls Tryz.prog 46 #[.int .i64 T, .slice a rs.length c] w fun e w' => e = .returned (.tuple #[.slice none 0 0, .int .i64 3]) ∧ Ext w w' := by
  have hle := h.le
  have hcap := h.cap
  have d1 : decide ((281474976710656 : Int) < T) = false := by simp; omega
  have d2 : decide (T < (-281474976710656 : Int)) = false := by simp; omega
  have d3 : decide ((128 : Int) < (rs.length : Int)) = false := by simp; omega
  go_enter Tryz.func46, Tryz.ntmps46
  go_wp2_with fail
  go_loopw [6] (fun ii wr => ∃ j : Nat, j ≤ jb ∧ Ext w wr ∧ ii = .int .i64 j) (fun ii _ => rs.length - (intOf ii).toNat)
  case atStart => exact ⟨0, Nat.zero_le _, Ext.refl _, rfl⟩
  case round =>
    obtain ⟨j, hj, hE, rfl⟩ := hrel
    have hlt : j < rs.length := by omega
    obtain ⟨b, o, rfl⟩ := h.at (by omega)
    obtain ⟨b', o', e', c0, c1, c2⟩ := (h.ext hE).cell j hlt
    cases e'
    obtain ⟨n2, m2', g1, g2, gq, gl1, gl2⟩ := h.num j hlt
    obtain ⟨ks1, ks2⟩ := hK j hlt
    have hSg := fun V (hV : Ext w V) => r3_Sign V rs[j].s _ _ _ _ _ _ _ _ (g1.ext hV) (g2.ext hV) (by omega) (by omega)
    rw [← gq] at hSg
    have hz : (j < jb ∧ decide ((qs[j]'(by rw [h.len]; exact hlt)).num.sign < 0) = false) ∨ decide ((qs[j]'(by rw [h.len]; exact hlt)).num.sign < 0) = true := by
      by_cases hjj : j < jb
      · exact Or.inl ⟨hjj, decide_eq_false (fun hh => absurd (num_sign_neg.1 hh) (Rat.not_lt.2 (hpos j hjj)))⟩
      · obtain rfl : j = jb := by omega
        exact Or.inr (decide_eq_true (num_sign_neg.2 hbad))
    generalize (qs[j]'(by rw [h.len]; exact hlt)).num.sign = z at hSg hz
    have HSg := Lib.hid hSg
    have HZ := Lib.hid hz
    clear hSg gq hz
    generalize rs[j] = y at *
    go_wp2_with fail
    refine (HSg.out _ hE).mono ?_
    rintro e w2 ⟨rfl, x2⟩
    rcases HZ.out with ⟨hjj, z1⟩ | z1
    · go_wp2_with fail
      go_roundw
      case rel => exact ⟨j + 1, by omega, hE.trans x2, by go_num⟩
      case measure => simp [intOf] <;> omega
    · go_wp2_with fail
      go_ret2
      exact ⟨rfl, hE.trans x2⟩

end Go.Proofs.YtgihpfkjpfanmaaGreat

/- ref40.Share: all weights are 0. -/
namespace Go.Proofs.YtgihpfkjpfanmaaGreat
open Go.RowKit

set_option maxHeartbeats 2000000 in
set_option maxRecDepth 100000 in
/-- All weights are 0. -/
theorem r40_share_none (w : World) (T : Int) (a : Option Addr) (c L : Nat) (rs : List RVal) (qs : List Rat) (h : Rats w a c rs qs L) (hn : rs.length ≤ 128) (hK : RShort rs 1000) (hT1 : -281474976710656 ≤ T) (hT2 : T ≤ 281474976710656) (hL : L ≤ 1000) (hpos : ∀ i (hi : i < rs.length), 0 ≤ (qs[i]'(by rw [h.len]; exact hi))) (h0 : qsum qs = 0) :
    Calls Tryz.prog 46 #[.int .i64 T, .slice a rs.length c] w fun e w' => e = .returned (.tuple #[.slice none 0 0, .int .i64 20]) ∧ Ext w w' := by
  have hle := h.le
  have hcap := h.cap
  have d1 : decide ((281474976710656 : Int) < T) = false := by simp; omega
  have d2 : decide (T < (-281474976710656 : Int)) = false := by simp; omega
  have d3 : decide ((128 : Int) < (rs.length : Int)) = false := by simp; omega
  go_enter Tryz.func46, Tryz.ntmps46
  go_wp2_with fail
  go_loopw [6] (fun ii wr => ∃ j : Nat, j ≤ rs.length ∧ Ext w wr ∧ ii = .int .i64 j) (fun ii _ => rs.length - (intOf ii).toNat)
  case atStart => exact ⟨0, Nat.zero_le _, Ext.refl _, rfl⟩
  case round =>
    obtain ⟨j, hj, hE, rfl⟩ := hrel
    by_cases hlt : j < rs.length
    · obtain ⟨b, o, rfl⟩ := h.at (by omega)
      obtain ⟨b', o', e', c0, c1, c2⟩ := (h.ext hE).cell j hlt
      cases e'
      obtain ⟨n2, m2', g1, g2, gq, gl1, gl2⟩ := h.num j hlt
      obtain ⟨ks1, ks2⟩ := hK j hlt
      have hSg := fun V (hV : Ext w V) => r3_Sign V rs[j].s _ _ _ _ _ _ _ _ (g1.ext hV) (g2.ext hV) (by omega) (by omega)
      rw [← gq] at hSg
      have z1 : decide ((qs[j]'(by rw [h.len]; exact hlt)).num.sign < 0) = false := decide_eq_false (fun hh => absurd (num_sign_neg.1 hh) (Rat.not_lt.2 (hpos j hlt)))
      generalize (qs[j]'(by rw [h.len]; exact hlt)).num.sign = z at hSg z1
      have HSg := Lib.hid hSg
      clear hSg gq
      generalize rs[j] = y at *
      go_wp2_with fail
      refine (HSg.out _ hE).mono ?_
      rintro e w2 ⟨rfl, x2⟩
      go_wp2_with fail
      go_roundw
      case rel => exact ⟨j + 1, by omega, hE.trans x2, by go_num⟩
      case measure => simp [intOf] <;> omega
    · obtain rfl : j = rs.length := by omega
      have hszq := qsum_short w a c L rs qs h hn hL
      have hSum := fun V (hV : Ext w V) => r3_Sum V a c rs qs L (h.ext hV) (by have := Nat.mul_le_mul hn (show L + 2 ≤ 1002 by omega); omega) (fun i hi => by have := hK i hi; omega)
      have hSg : ∀ V (r : RVal) (B : Nat), IsCan V r (qsum qs) B → Calls Tryz.prog 43 #[.agg #[.bool r.s, .slice r.a r.k r.c, .slice r.b r.j r.d]] V fun e w' => e = .returned (.int .i64 0) ∧ Ext V w' := by
        intro V r B hr
        have hs := hr.short (Nat.le_of_lt hszq)
        have h5 := r3_Sign V r.s _ _ _ _ _ _ _ _ hr.num hr.den (by omega) (by omega)
        rw [hr.s, sgn_num, Rat.mkRat_self, show (qsum qs).num.sign = 0 from by rw [h0]; rfl] at h5
        rw [hr.s]
        exact h5
      have HSum := Lib.hid hSum; have HSg := Lib.hid hSg
      clear hSum hSg h0 hszq
      go_wp2_with fail
      refine (HSum.out _ hE).mono ?_
      intro e w2 hN
      obtain ⟨r2, rfl, hr2, x2⟩ := hN.isCan
      clear hN
      go_upto_region 9 with fail
      obtain ⟨W3, hW3, x3, Z3, A3⟩ := boxes1 w2 55 [.bool r2.s, .slice r2.a r2.k r2.c, .slice r2.b r2.j r2.d]
      rw [← hW3]
      clear hW3
      obtain ⟨k0, k1, k2, -, -, -⟩ := box3 A3 (Ext.refl _)
      go_wp2_with fail
      refine (HSg.out _ _ _ (hr2.ext x3)).mono ?_
      rintro e w4 ⟨rfl, x4⟩
      go_wp2_with fail
      go_ret2
      exact ⟨rfl, ((hE.trans x2).trans x3).trans x4⟩

end Go.Proofs.YtgihpfkjpfanmaaGreat

/- append as one operation of a region that draws its order. -/
namespace Go.Proofs.YtgihpfkjpfanmaaGreat
open Go.RowKit

/-- 'append(s, x)' where s is nil or the call's own, one operation alone. -/
theorem wp_append_at {P : Program} (w : World) {o : Oper} {a : Act} {K : Act → World → Prop} {Q : Exit → Act → World → Prop} (s x : Operand) (t : TypeId)
    (ho : o.op = .call { callee := .builtin .append, args := #[s, x], argTypes := #[t, t] })
    (base : Nat) (e : TypeId) (z : Value) (size bytes : Nat) (ht : P.underlying t = some (.slice e)) (hinfo : (P.info? e).map (fun i => (i.zero, i.size, i.bytes)) = some (some z, size, bytes)) (hzs : z.cells.size = size) (hsz : 0 < size)
    (v : Value) (n : Nat) (xs : List Value) (hs : a.eval s = v) (hown : w.ownsRow base e size v n xs)
    (ad : Addr) (m c : Nat) (news : List Value) (hx : a.eval x = .slice (some ad) m c) (hl : news.length = m * size) (hnews : ∀ j u, news[j]? = some u → w.cell? (ad.add j) = some u) (h1 : ∀ u ∈ news, u.oneCell' = true)
    (h63 : n + m ≤ 1200000000000) (hbytes : bytes ≤ 100) (hbase : base ≤ w.heap.size)
    (h : ∀ v' w', Hid (w'.ownsRow base e size v' (n + m) (xs ++ news)) → Hid (∀ a0, Ext a0 w → a0.heap.size ≤ base → Ext a0 w') → Hid (∀ k, k < w.heap.size → some k ≠ v.ownBlock → w'.heap[k]? = w.heap[k]?) → Hid (w.heap.size ≤ w'.heap.size) → Hid (v'.ownBlock = v.ownBlock ∨ ∃ g, v'.ownBlock = some g ∧ w.heap.size ≤ g) → K (a.put o.dst v') w') : Oper.wp P o a w K Q := by
  obtain ⟨i, hi, hz, hsize, hby⟩ := info_parts hinfo
  have hlt := hown.lt
  have hb : (n + m) * bytes ≤ 140737488355328 := Nat.le_trans (Nat.mul_le_mul h63 hbytes) (by decide)
  have hm63 : n + m ≤ maxLen := by unfold maxLen; omega
  obtain ⟨v', w', hr, h2, h3, h4, h5⟩ := run_append_at (P := P) w base t o.type e i z size bytes ht hi hz hsize hby hzs hsz v n xs hown ad m c news hl hnews h1 hm63 hb hbase
  unfold Oper.wp execOp
  simp only [ho, resolve, invoke, builtin, Sem.run_bind, Sem.run_pure, Result.andThen_ok, List.map_toArray, List.map_cons, List.map_nil, hs, hx, hr]
  exact h v' w' h2 (fun a0 ha hb0 => ⟨ha.below.trans ⟨h3.os, h3.tape, h3.output, h3.size, fun k hk => h3.block k (by have := ha.size; omega) (fun e' => by have := hlt k e'.symm; omega)⟩, Nat.le_trans ha.drawn h4⟩) h3.block h3.size h5

end Go.Proofs.YtgihpfkjpfanmaaGreat
