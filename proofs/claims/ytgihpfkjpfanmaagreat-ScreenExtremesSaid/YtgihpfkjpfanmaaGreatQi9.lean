/- Texts of the proof: App, BitDiv, Ref1, Ref2, Ref3, Ref4, Ref5, Ref6. -/
import Derived.Laws.AppendOwnNone
import Derived.Test.YtgihpfkjpfanmaaGreatChecked
import Derived.Lib.Strings
import Derived.Lib.Slices
import Derived.Lib.Small
import Derived.Lib.Walk
import Derived.Lib.BitFns
import Derived.Deep.DeepCutAuto
import Derived.Deep.CutBlock
import Derived.IntWalk
import Derived.Test.YtgihpfkjpfanmaaGreatRows
import Derived.Deep.LoopGhost
import Derived.KernelRfl
import Derived.WalkKit
import Derived.WalkSpells
import Derived.Sort.Grow
import Derived.Lib.Hide
import Derived.Laws.CopyOwn
import Derived.Laws.BitsAllLaws
import Derived.Deep.QuietTactic
import Derived.BigQuiet
import Derived.WalkLawsBesides
import Derived.Deep.RegionWith
import Derived.Deep.RegionHeld3
import Derived.Test.YtgihpfkjpfanmaaGreatQi1
import Derived.Test.YtgihpfkjpfanmaaGreatQi2
import Derived.Test.YtgihpfkjpfanmaaGreatQi3
import Derived.Test.YtgihpfkjpfanmaaGreatQi4
import Derived.Test.YtgihpfkjpfanmaaGreatQi5
import Derived.Test.YtgihpfkjpfanmaaGreatQi6
namespace Go.Proofs.YtgihpfkjpfanmaaGreat
open Go.RowKit

section
variable {P : Program} (w : World)

theorem run_append_ext (base : Nat) (t ty e : TypeId) (i : TypeInfo) (z : Value) (size bytes : Nat) (ht : P.underlying t = some (.slice e)) (hi : P.info? e = some i) (hz : i.zero = some z)
    (hsize : i.size = size) (hby : i.bytes = bytes) (hzs : z.cells.size = size) (hsz : 0 < size)
    (v : Value) (n : Nat) (xs : List Value) (hown : w.ownsRow base e size v n xs)
    (a : Addr) (m c : Nat) (news : List Value) (hl : news.length = m * size) (hnews : ∀ j u, news[j]? = some u → w.cell? (a.add j) = some u) (h1 : ∀ u ∈ news, u.oneCell' = true)
    (h63 : n + m ≤ maxLen) (hbytes : (n + m) * bytes ≤ 140737488355328) (hbase : base ≤ w.heap.size) :
    ∃ v' w', (Builtin.append_ #[t, t] ty #[v, .slice (some a) m c]).run P w = .ok v' w' ∧ w'.ownsRow base e size v' (n + m) (xs ++ news) ∧ w.grownBy w' v.ownBlock ∧ w.drawn ≤ w'.drawn := by
  obtain ⟨v', w', hr, h2, h3, _⟩ := run_append_own (P := P) w base t ty e i z size bytes ht hi hz hsize hby hzs hsz v n xs hown a m c news hl hnews h1 h63 hbytes hbase
  refine ⟨v', w', hr, h2, h3, ?_⟩
  subst hsize
  subst hby
  have hsmall : n + m ≤ 9223372036854775807 := by simp only [maxLen] at h63; omega
  rcases hown.2 with ⟨rfl, rfl⟩ | ⟨g, cap, cur, rfl, hbg, hg, hnc, hcm, hcs, htake⟩
  · have hx : xs = [] := List.eq_nil_of_length_eq_zero (by simpa using hown.1)
    subst hx
    by_cases hm : m = 0
    · subst hm
      have hn : news = [] := List.eq_nil_of_length_eq_zero (by simpa using hl)
      subst hn
      have hr' : (Builtin.append_ #[t, t] ty #[.slice none 0 0, .slice (some a) 0 c]).run P w = .ok (.slice none 0 0) w := by
        simp [Builtin.append_, run_underlying ht, sizeOf, typeInfo, hi, Builtin.lenOf, Builtin.firstCells, loadCells, loadCellsFrom]
      rw [hr'] at hr; cases hr; exact Nat.le_refl _
    · have hr' := run_append_nil (P := P) w t ty e i z ht hi hz a m c news hl hnews (by omega) (by omega) (by have hb := hbytes; simp only [Nat.zero_add] at hb; omega)
      rw [hr'] at hr; cases hr; exact Nat.le_succ _
  · by_cases hroom : n + m ≤ cap
    · have hfit : n * i.size + news.length ≤ cur.size := by rw [hl, hcs, ← Nat.add_mul]; exact Nat.mul_le_mul_right _ hroom
      have hr' := run_append_room (P := P) w t ty e i ht hi g n cap cur hg a m c news hl hnews h1 hroom hfit
      rw [hr'] at hr; cases hr; exact Nat.le_refl _
    · have holds : ∀ j u, xs[j]? = some u → w.cell? ((⟨g, 0, none⟩ : Addr).add j) = some u := hown.cells (g := g) rfl
      have hr' := run_append_grow (P := P) w t ty e i z ht hi hz ⟨g, 0, none⟩ n cap xs hown.1 holds a m c news hl hnews (by omega) (by omega) (growslice_fits (by omega) hbytes)
      rw [hr'] at hr; cases hr; exact Nat.le_succ _

/-- 'append(s, x...)' where s is nil or the call's own: what lay before the call's own blocks stays. -/
theorem wpList_append_ext {ops : Array Oper} {rest : List Oper} {o : Oper} {a : Act} {Q : Exit → Act → World → Prop} (hgd : o.guard = none) (s x : Operand) (t : TypeId)
    (ho : o.op = .call { callee := .builtin .append, args := #[s, x], argTypes := #[t, t] })
    (base : Nat) (e : TypeId) (z : Value) (size bytes : Nat) (ht : P.underlying t = some (.slice e)) (hinfo : (P.info? e).map (fun i => (i.zero, i.size, i.bytes)) = some (some z, size, bytes)) (hzs : z.cells.size = size) (hsz : 0 < size)
    (v : Value) (n : Nat) (xs : List Value) (hs : a.eval s = v) (hown : w.ownsRow base e size v n xs)
    (xa : Option Addr) (m c : Nat) (news : List Value) (hx : a.eval x = .slice xa m c) (hl : news.length = m * size) (hnews : 0 < m → ∃ ad, xa = some ad ∧ ∀ j u, news[j]? = some u → w.cell? (ad.add j) = some u) (h1 : ∀ u ∈ news, u.oneCell' = true)
    (hnil : xa = none → m = 0 ∧ c = 0)
    (h63 : n + m ≤ 1200000000000) (hbytes : bytes ≤ 100) (hbase : base ≤ w.heap.size)
    (h : ∀ v' w', Hid (w'.ownsRow base e size v' (n + m) (xs ++ news)) → Hid (∀ a0, Ext a0 w → a0.heap.size ≤ base → Ext a0 w') → Hid (∀ k, k < w.heap.size → some k ≠ v.ownBlock → w'.heap[k]? = w.heap[k]?) → Hid (w.heap.size ≤ w'.heap.size) → wpList P ops Q rest (a.put o.dst v') w') : wpList P ops Q (o :: rest) a w := by
  obtain ⟨i, hi, hz, hsize, hby⟩ := info_parts hinfo
  have hlt := hown.lt
  have hb : (n + m) * bytes ≤ 140737488355328 := Nat.le_trans (Nat.mul_le_mul h63 hbytes) (by decide)
  have hm63 : n + m ≤ maxLen := by unfold maxLen; omega
  cases xa with
  | none =>
    obtain ⟨rfl, rfl⟩ := hnil rfl
    have hn : news = [] := List.eq_nil_of_length_eq_zero (by simpa using hl)
    subst hn
    refine wpList_append_own_none hgd s x t ho base e i size ht hi v n xs hs hown hx ?_
    exact h v w (Lib.hid (by simpa using hown)) (fun _ h _ => h) (fun _ _ _ => rfl) (Nat.le_refl _)
  | some ad =>
    have hnews' : ∀ j u, news[j]? = some u → w.cell? (ad.add j) = some u := by
      intro j u hu
      by_cases hm : 0 < m
      · obtain ⟨ad', e', hh⟩ := hnews hm; cases e'; exact hh j u hu
      · have : news = [] := List.eq_nil_of_length_eq_zero (by rw [hl]; have : m = 0 := by omega
                                                              simp [this])
        rw [this] at hu; simp at hu
    refine wpList_plain hgd fun K hK => ?_
    obtain ⟨v', w', hr, h2, h3, h4⟩ := run_append_ext (P := P) w base t o.type e i z size bytes ht hi hz hsize hby hzs hsz v n xs hown ad m c news hl hnews' h1 hm63 hb hbase
    unfold Oper.wp execOp
    simp only [ho, resolve, invoke, builtin, Sem.run_bind, Sem.run_pure, Result.andThen_ok, List.map_toArray, List.map_cons, List.map_nil, hs, hx, hr]
    refine hK _ _ (h v' w' h2 (fun a0 ha hb0 => ⟨ha.below.trans ⟨h3.os, h3.tape, h3.output, h3.size, fun k hk => h3.block k (by have := ha.size; omega) (fun e' => by have := hlt k e'.symm; omega)⟩, Nat.le_trans ha.drawn h4⟩) h3.block h3.size)
end

/-- What a row of limbs that is owned reads as. -/
theorem ownsRow_limbs {w : World} {base : Nat} {e : TypeId} {v : Value} {n : Nat} {l : List Nat} (h : w.ownsRow base e 1 v n (u32s l)) (hs : Small l) (hc : l.length ≤ 1099511627776) :
    ∃ a c, v = .slice a n c ∧ l.length = n ∧ Limbs w a c l ∧ Fr base a := by
  obtain ⟨h1, h2⟩ := h
  rw [u32s_length, Nat.mul_one] at h1
  rcases h2 with ⟨rfl, rfl⟩ | ⟨g, cap, cur, rfl, hb, hg, hn, hcap, hcs, htake⟩
  · have : l = [] := List.eq_nil_of_length_eq_zero h1
    subst this
    exact ⟨none, 0, rfl, rfl, Limbs.nil _, Fr.none _⟩
  · refine ⟨some ⟨g, 0, none⟩, cap, rfl, h1, ⟨by omega, by unfold maxLen at hcap; omega, hc, (fun e => by cases e), hs, fun i hi => ⟨g, 0, rfl, ?_⟩⟩, Fr.some hb⟩
    rw [Nat.zero_add]
    have : cur.toList[i]? = some (.int .u32 (limb l i : Nat)) := by
      have h3 : (cur.toList.take (n * 1))[i]? = (u32s l)[i]? := by rw [htake]
      rw [u32s_get _ _ hi, List.getElem?_take, if_pos (by omega)] at h3
      exact h3
    simp only [World.cell?, hg]
    simpa using this

theorem ownsRow_empty (w : World) (base : Nat) (e : TypeId) (g : Nat) (hb : base ≤ g) (hg : Arr w g e []) : w.ownsRow base e 1 (.slice (some ⟨g, 0, none⟩) 0 0) 0 [] :=
  ⟨rfl, .inr ⟨g, 0, #[], rfl, hb, hg, Nat.le_refl _, Nat.zero_le _, rfl, rfl⟩⟩

end Go.Proofs.YtgihpfkjpfanmaaGreat


namespace Go.Proofs.YtgihpfkjpfanmaaGreat

theorem bit_div (N m b : Nat) (hm : 0 < m) (hb : b < 2) :
    (m ≤ 2 * (N % m) + b → (2 * N + b) / m = 2 * (N / m) + 1 ∧ (2 * N + b) % m = 2 * (N % m) + b - m) ∧
    (¬ m ≤ 2 * (N % m) + b → (2 * N + b) / m = 2 * (N / m) ∧ (2 * N + b) % m = 2 * (N % m) + b) := by
  have h1 := Nat.div_add_mod N m
  have h2 := Nat.mod_lt N hm
  generalize N / m = q at *
  generalize N % m = r at *
  constructor
  · intro h
    have e : 2 * N + b = (2 * r + b - m) + m * (2 * q + 1) := by
      rw [← h1, Nat.mul_add m, Nat.mul_left_comm m 2]; omega
    rw [e, Nat.add_mul_div_left _ _ hm, Nat.add_mul_mod_self_left, Nat.div_eq_of_lt (by omega), Nat.mod_eq_of_lt (by omega)]
    exact ⟨by omega, rfl⟩
  · intro h
    have e : 2 * N + b = (2 * r + b) + m * (2 * q) := by
      rw [← h1, Nat.mul_left_comm m 2]; omega
    rw [e, Nat.add_mul_div_left _ _ hm, Nat.add_mul_mod_self_left, Nat.div_eq_of_lt (by omega), Nat.mod_eq_of_lt (by omega)]
    exact ⟨by omega, rfl⟩

theorem half_bits (n i : Nat) : n / 2 ^ i = 2 * (n / 2 ^ (i + 1)) + n / 2 ^ i % 2 := by
  rw [Nat.pow_succ, ← Nat.div_div_eq_div_mul]; omega

theorem limb_eq {l : List Nat} (hs : Small l) {t : Nat} (ht : t < l.length) : limb l t = val l / 4294967296 ^ t % 4294967296 := by
  have e := val_split l t ht
  have hv := val_take_lt hs (t := t) (by omega)
  rw [e, Nat.add_mul_div_left _ _ (Nat.pow_pos (by decide)), Nat.div_eq_of_lt hv, Nat.zero_add, Nat.add_mul_mod_self_left, Nat.mod_eq_of_lt (limb_lt hs t)]

/-- Setting a binary digit below all those that are set. -/
theorem set_bit {l : List Nat} (hs : Small l) {i Q : Nat} (hv : val l = Q * 2 ^ (i + 1)) (hi : i / 32 < l.length) :
    limb l (i / 32) ||| 2 ^ (i % 32) < 4294967296 ∧ val (l.set (i / 32) (limb l (i / 32) ||| 2 ^ (i % 32))) = Q * 2 ^ (i + 1) + 2 ^ i := by
  have hk : i % 32 < 32 := Nat.mod_lt _ (by decide)
  have hlim := limb_eq hs hi
  have e1 : Q * 2 ^ (i + 1) = 4294967296 ^ (i / 32) * (Q * 2 ^ (i % 32 + 1)) := by
    rw [pow_eq, Nat.mul_left_comm, ← Nat.pow_add]; congr 2; omega
  have e2 : 2 ^ i = 4294967296 ^ (i / 32) * 2 ^ (i % 32) := by
    rw [pow_eq, ← Nat.pow_add]; congr 1; omega
  rw [hv, e1, Nat.mul_div_cancel_left _ (Nat.pow_pos (by decide))] at hlim
  have hval := val_set hi (limb l (i / 32) ||| 2 ^ (i % 32))
  rw [hv, e1] at hval
  rw [e1, e2]
  generalize i % 32 = k at *
  generalize i / 32 = t at *
  have e3 : (4294967296 : Nat) = 2 ^ (k + 1) * 2 ^ (31 - k) := by rw [← Nat.pow_add, show k + 1 + (31 - k) = 32 from by omega]
  have e4 : limb l t = 2 ^ (k + 1) * (Q % 2 ^ (31 - k)) := by
    rw [hlim]; conv => lhs; rw [e3]
    rw [Nat.mul_comm Q, Nat.mul_mod_mul_left]
  have e5 : limb l t ||| 2 ^ k = limb l t + 2 ^ k := by
    rw [e4, Nat.two_pow_add_eq_or_of_lt (Nat.pow_lt_pow_right (by decide) (by omega))]
  have h6 := Nat.mod_lt Q (Nat.two_pow_pos (31 - k))
  have h7 := Nat.mul_le_mul_left (2 ^ (k + 1)) (show Q % 2 ^ (31 - k) + 1 ≤ 2 ^ (31 - k) from h6)
  rw [← e3, Nat.mul_add, Nat.mul_one, ← e4] at h7
  have h8 : 2 ^ k < 2 ^ (k + 1) := Nat.pow_lt_pow_right (by decide) (by omega)
  refine ⟨by rw [e5]; omega, ?_⟩
  rw [e5] at hval ⊢
  rw [Nat.mul_add (4294967296 ^ t)] at hval
  omega

end Go.Proofs.YtgihpfkjpfanmaaGreat


namespace Go.Proofs.YtgihpfkjpfanmaaGreat
open Go.RowKit

set_option maxHeartbeats 1000000 in
set_option maxRecDepth 100000 in
/-- ref01.Trim. -/
theorem r1_Trim (w : World) (a : Option Addr) (k c n : Nat) (h : Raw w a k c n) :
    Calls Tryz.prog 150 #[.slice a k c] w (NewNat n w) := by
  have hR := h
  obtain ⟨l, rfl, rfl, h⟩ := h
  have h1 := h.le
  have h2 := h.cap
  have h3 := h.short
  go_enter Tryz.func150, Tryz.ntmps150
  go_wp2
  go_loop [3] (fun i => ∃ k : Nat, k ≤ l.length ∧ val (l.take k) = val l ∧ i = .int .i64 k) (fun i => (intOf i).toNat)
  case atStart => exact ⟨_, Nat.le_refl _, by rw [List.take_length], rfl⟩
  case round =>
    obtain ⟨k, hk, hv, rfl⟩ := hrel
    have HV := Lib.hid hv; clear hv
    have fin : len (val l) = k → ∀ v' w', (w'.ownsRow w.heap.size 122 1 v' (0 + k) ([] ++ u32s (l.take k))) → Ext w w' → NewNat (val l) w (.returned v') w' := by
      intro e v' w' ho he
      rw [List.nil_append, Nat.zero_add] at ho
      obtain ⟨a', c', rfl, _, hL, hF⟩ := ownsRow_limbs ho (h.small.take k) (by rw [List.length_take]; omega)
      refine ⟨a', c', by rw [e], ?_, hF, he⟩
      rw [e]
      exact ⟨l.take k, by rw [List.length_take]; omega, HV.out, hL⟩
    have FIN := Lib.hid fin; clear fin
    by_cases h0 : 0 < k
    · obtain ⟨b, o, rfl⟩ := h.at (by omega)
      have hc := h.cellAt (k - 1) (by omega)
      by_cases hz : limb l (k - 1) = 0
      · have hz' : ((limb l (k - 1) : Nat) : Int) = 0 := by omega
        rw [hz'] at hc
        have HZ := Lib.hid hz; clear hz hz'
        go_wp2
        go_round
        case rel =>
          refine ⟨k - 1, by omega, ?_, by go_num⟩
          have := val_take_succ (l := l) (k := k - 1) (by omega)
          rw [HZ.out, show k - 1 + 1 = k from by omega, HV.out] at this
          rw [this]; simp
        case measure => simp [intOf]; omega
      · have hz' : (((limb l (k - 1) : Nat) : Int) == 0) = false := by rw [beq_eq_false_iff_ne]; omega
        have e : len (val l) = k := by
          rw [← HV.out]
          have := len_val (h.small.take k) (by rw [List.length_take]; omega) (by rw [List.length_take, Nat.min_eq_left hk, limb_take (by omega)]; exact hz)
          rw [this, List.length_take, Nat.min_eq_left hk]
        have E := Lib.hid e; clear e
        have HZ := Lib.hid hz; clear hz
        have hT := (h.take k hk)
        go_wp2_with (at_builtin; refine wpList_append_ext _ rfl _ _ 51 rfl w.heap.size 122 (.int .u32 0) 1 4 Tryz.underlying51 Tryz.info_u32 rfl (by decide) _ 0 [] rfl ?c1 _ k c (u32s (l.take k)) rfl ?c2 ?c3 (u32s_one _) ?c4 ?c5 (by decide) ?c6 ?_; rotate_right; intro v' w' ho he hb hz)
        case c1 => exact ownsRow_empty _ _ _ _ (Nat.le_refl _) (Arr.alloc w _ [])
        case c2 => rw [u32s_length, List.length_take]; omega
        case c3 =>
          intro j u hu
          obtain ⟨ad, e, hh⟩ := (hT.ext ((Ext.refl w).alloc (.cells #[] 122))).src (by rw [List.length_take]; omega)
          cases e
          have hh' := hh j u hu
          by_cases hj : j = 0 <;> simpa [Addr.add, hj] using hh'
        case c5 => omega
        go_ret
        exact FIN.out E.out _ _ ho.out (he.out w ((Ext.refl _).alloc _) (Nat.le_refl _))
    · obtain rfl : k = 0 := by omega
      have e : len (val l) = 0 := by rw [← HV.out]; rfl
      have E := Lib.hid e; clear e
      rcases a with _ | ⟨b, o⟩
      · have hl0 : l.length = 0 := by
          rcases Nat.eq_zero_or_pos l.length with e | e
          · exact e
          · obtain ⟨b, o, e'⟩ := h.at e; cases e'
        have hc0 := h.nul rfl
        subst hc0
        go_wp2_with (at_builtin; refine wpList_append_ext _ rfl _ _ 51 rfl w.heap.size 122 (.int .u32 0) 1 4 Tryz.underlying51 Tryz.info_u32 rfl (by decide) _ 0 [] rfl ?d1 _ 0 0 (u32s (l.take 0)) rfl ?d2 ?d3 (u32s_one _) ?d4 ?d5 (by decide) ?d6 ?_; rotate_right; intro v' w' ho he hb hz)
        case d1 => exact ownsRow_empty _ _ _ _ (Nat.le_refl _) (Arr.alloc w _ [])
        go_ret
        exact FIN.out E.out _ _ ho.out (he.out w ((Ext.refl _).alloc _) (Nat.le_refl _))
        rfl
      · go_wp2_with (at_builtin; refine wpList_append_ext _ rfl _ _ 51 rfl w.heap.size 122 (.int .u32 0) 1 4 Tryz.underlying51 Tryz.info_u32 rfl (by decide) _ 0 [] rfl ?e1 _ 0 c (u32s (l.take 0)) rfl ?e2 ?e3 (u32s_one _) ?e4 ?e5 (by decide) ?e6 ?_; rotate_right; intro v' w' ho he hb hz)
        case e1 => exact ownsRow_empty _ _ _ _ (Nat.le_refl _) (Arr.alloc w _ [])
        go_ret
        exact FIN.out E.out _ _ ho.out (he.out w ((Ext.refl _).alloc _) (Nat.le_refl _))
        rfl
end Go.Proofs.YtgihpfkjpfanmaaGreat


namespace Go.Proofs.YtgihpfkjpfanmaaGreat
open Go.RowKit

/-- ref01.FromUint64. -/
theorem r1_FromUint64 (w : World) (n : Nat) (hn : n < 18446744073709551616) :
    Calls Tryz.prog 144 #[.int .u64 (n : Nat)] w (NewNat n w) := by
  have hr : Raw (w.alloc (Obj.cells #[.int .u32 ((n : Int) % 4294967296), .int .u32 ((n : Int) / 4294967296)] 122)) (some ⟨w.heap.size, 0, none⟩) 2 2 n := by
    have ha := Arr.alloc w 122 (u32s [n % 4294967296, n / 4294967296])
    exact ⟨_, rfl, by simp [val]; omega, ha.limbs (Small.append (l := [_]) (m := [_]) (Small.one (by omega)) (Small.one (by omega))) (by simp)⟩
  go_enter Tryz.func144, Tryz.ntmps144
  go_wp2_with fail
  refine (r1_Trim _ _ _ _ _ hr).mono ?_
  rintro e w' ⟨a, c, rfl, h1, h2, h3⟩
  go_wp2
  go_ret
  exact ⟨_, _, rfl, h1, h2.mono (by simp), ((Ext.refl _).alloc _).trans h3⟩

set_option maxRecDepth 100000 in
/-- ref01.Uint64. -/
theorem r1_Uint64_yes (w : World) (a : Option Addr) (k c n : Nat) (h : Raw w a k c n) (hn : n < 18446744073709551616) :
    Calls Tryz.prog 91 #[.slice a k c] w fun e w' => e = .returned (.tuple #[.int .u64 (n : Nat), .bool true]) ∧ Ext w w' := by
  have h2 := len_le_two.2 hn
  go_enter Tryz.func91, Tryz.ntmps91
  go_wp2_with fail
  refine (r1_Trim _ _ _ _ _ h).mono ?_
  rintro e w' ⟨a', c', rfl, hR, hF, hX⟩
  have hE := Lib.hid hX; clear hX hn
  obtain ⟨l, hl, rfl, hL⟩ := hR
  have hs := hL.small
  rw [← hl] at h2 ⊢
  clear hl
  rcases l with _ | ⟨x, _ | ⟨y, _ | ⟨z, l⟩⟩⟩
  · have h := hL
    go_wp2
    refine wp_loop_rounds 1 ?_; rw [rounds_succ]
    go_wp2
    go_ret2
    exact ⟨rfl, hE.out⟩
  · have h := hL
    obtain ⟨b, o, rfl⟩ := h.at (by simp)
    have hc := h.cellAt 0 (by simp)
    have hx := hs x (by simp)
    simp [limb] at hc
    go_wp2
    refine wp_loop_rounds 2 ?_; rw [rounds_succ]
    go_wp2
    rw [rounds_succ]
    go_wp2
    go_ret2
    refine ⟨?_, hE.out⟩
    simp [Array.getD, val]
    exact or_zero x (by omega)
  · have h := hL
    obtain ⟨b, o, rfl⟩ := h.at (by simp)
    have hc := h.cellAt 0 (by simp)
    have hc1 := h.cellAt 1 (by simp)
    have hx := hs x (by simp)
    have hy := hs y (by simp)
    simp [limb] at hc hc1
    go_wp2
    refine wp_loop_rounds 3 ?_; rw [rounds_succ]
    go_wp2
    rw [rounds_succ]
    go_wp2
    rw [rounds_succ]
    go_wp2
    go_ret2
    refine ⟨?_, hE.out⟩
    simp [Array.getD, val]
    rw [or_zero y (by omega)]
    have e : IntKind.u64.wrap ((y : Int) * 4294967296) = (y : Int) * 4294967296 := by
      rw [IntKind.wrap_u64]; omega
    rw [e, or_lo y x hy hx]; omega
  · simp at h2

theorem r1_Uint64_no (w : World) (a : Option Addr) (k c n : Nat) (h : Raw w a k c n) (hn : 18446744073709551616 ≤ n) :
    Calls Tryz.prog 91 #[.slice a k c] w fun e w' => e = .returned (.tuple #[.int .u64 0, .bool false]) ∧ Ext w w' := by
  have h2 : 2 < len n := by have := @len_le_two n; omega
  have hl := h.cut.le
  go_enter Tryz.func91, Tryz.ntmps91
  go_wp2_with fail
  refine (r1_Trim _ _ _ _ _ h).mono ?_
  rintro e w' ⟨a', c', rfl, hR, hF, hX⟩
  have hE := Lib.hid hX; clear hX hn
  go_wp2
  go_ret2
  exact ⟨rfl, hE.out⟩

set_option maxHeartbeats 400000 in
/-- ref01.Compare. -/
theorem r1_Compare (w : World) (a b : Option Addr) (k k' c c' n m : Nat) (ha : Raw w a k c n) (hb : Raw w b k' c' m) :
    Calls Tryz.prog 210 #[.slice a k c, .slice b k' c'] w fun e w' => e = .returned (.int .i64 (cmpN n m)) ∧ Ext w w' := by
  go_enter Tryz.func210, Tryz.ntmps210
  go_wp2_with fail
  refine (r1_Trim _ _ _ _ _ ha).mono ?_
  rintro e w1 ⟨a1, c1, rfl, hR1, hF1, hX1⟩
  go_wp2_with fail
  refine (r1_Trim _ _ _ _ _ (hb.ext hX1)).mono ?_
  rintro e w2 ⟨b1, d1, rfl, hR2, hF2, hX2⟩
  have ha' := hR1.ext hX2
  have hb' := hR2
  have la := ha'.le
  have lb := hb'.le
  have HX := Lib.hid (hX1.trans hX2)
  by_cases hne : len n = len m
  · obtain ⟨l, hl, hv, hA⟩ := ha'
    obtain ⟨l', hl', hv', hB⟩ := hb'
    have s1 := hA.small
    have s2 := hB.small
    have hne' : (((len n : Nat) : Int) != ((len m : Nat) : Int)) = false := by simp [hne]
    rw [← hne] at hl' lb hne'
    have HL := Lib.hid hl; have HL' := Lib.hid hl'; have HV := Lib.hid hv; have HV' := Lib.hid hv'; have HN := Lib.hid hne
    clear hl hl' hv hv' hne
    rw [← HN.out]
    go_wp2
    go_loopw [5] (fun i wr => ∃ j : Nat, j ≤ len n ∧ l.drop j = l'.drop j ∧ i = .int .i64 ((j : Int) - 1) ∧ Quiet w2 wr) (fun i _ => (intOf i + 1).toNat)
    case atStart => exact ⟨len n, Nat.le_refl _, by rw [List.drop_of_length_le (by rw [HL.out]; exact Nat.le_refl _), List.drop_of_length_le (by rw [HL'.out]; exact Nat.le_refl _)], rfl, Quiet.refl _⟩
    case round =>
      obtain ⟨j, hj, hd, rfl, hq⟩ := hrel
      have HD := Lib.hid hd; clear hd
      by_cases h0 : 0 < j
      · obtain ⟨i, rfl⟩ : ∃ i, j = i + 1 := ⟨j - 1, by omega⟩
        rw [show (((i + 1 : Nat) : Int) - 1) = (i : Int) from by omega]
        obtain ⟨p, o, rfl⟩ := hA.at (by rw [HL.out]; omega)
        obtain ⟨p', o', rfl⟩ := hB.at (by rw [HL'.out]; omega)
        have hc := (hA.ext hq.ext).cellAt i (by rw [HL.out]; omega)
        have hc' := (hB.ext hq.ext).cellAt i (by rw [HL'.out]; omega)
        have hx := limb_lt s1 i
        have hy := limb_lt s2 i
        have g1 : (i : Int) < (len n : Int) := by omega
        have g2 : (0 : Int) ≤ (i : Int) := by omega
        by_cases c1 : limb l i < limb l' i
        · have d1 : decide (((limb l i : Nat) : Int) < ((limb l' i : Nat) : Int)) = true := by simp; omega
          go_wp2
          go_quiet (fail)
          go_wp2
          go_ret
          refine ⟨ret_int ?_, HX.out.trans (hq.drewN _).ext⟩
          have := val_lt_of s1 (k := i) (by rw [HL.out]; omega) (by rw [HL'.out]; omega) (by rw [HD.out]) c1
          rw [HV.out, HV'.out] at this
          unfold cmpN; rw [if_pos this]
        · by_cases c2 : limb l' i < limb l i
          · have d1 : decide (((limb l i : Nat) : Int) < ((limb l' i : Nat) : Int)) = false := by simp; omega
            have d2 : decide (((limb l' i : Nat) : Int) < ((limb l i : Nat) : Int)) = true := by simp; omega
            go_wp2
            go_quiet (fail)
            go_wp2
            go_quiet (fail)
            go_wp2
            go_ret
            refine ⟨ret_int ?_, HX.out.trans ((hq.drewN _).drewN _).ext⟩
            have := val_lt_of s2 (k := i) (by rw [HL'.out]; omega) (by rw [HL.out]; omega) (by rw [HD.out]) c2
            rw [HV.out, HV'.out] at this
            unfold cmpN; rw [if_neg (by omega), if_neg (by omega)]
          · have d1 : decide (((limb l i : Nat) : Int) < ((limb l' i : Nat) : Int)) = false := by simp; omega
            have d2 : decide (((limb l' i : Nat) : Int) < ((limb l i : Nat) : Int)) = false := by simp; omega
            go_wp2
            go_quiet (fail)
            go_wp2
            go_quiet (fail)
            go_wp2
            go_roundw
            case rel =>
              refine ⟨i, by omega, ?_, rfl, hq.drewN _⟩
              have e1 : limb l i = limb l' i := by omega
              have e2 : i < l.length := by rw [HL.out]; omega
              have e3 : i < l'.length := by rw [HL'.out]; omega
              rw [List.drop_eq_getElem_cons e2, List.drop_eq_getElem_cons e3, HD.out]
              simp only [limb, List.getElem?_eq_getElem e2, List.getElem?_eq_getElem e3, Option.getD_some] at e1
              rw [e1]
            case measure => simp [intOf]
      · obtain rfl : j = 0 := by omega
        go_wp2
        go_ret
        refine ⟨ret_int ?_, HX.out.trans hq.ext⟩
        have : n = m := by rw [← HV.out, ← HV'.out]; have := HD.out; simp at this; rw [this]
        unfold cmpN; rw [if_neg (by omega), if_pos this]
  · have hne' : (((len n : Nat) : Int) != ((len m : Nat) : Int)) = true := by simp; omega
    by_cases hlt : len n < len m
    · go_wp2
      go_ret
      refine ⟨ret_int ?_, HX.out⟩
      have : n < m := by
        apply Nat.lt_of_not_le; intro h; have := len_mono h; omega
      unfold cmpN; rw [if_pos this]
    · go_wp2
      go_ret
      refine ⟨ret_int ?_, HX.out⟩
      have : m < n := by
        apply Nat.lt_of_not_le; intro h; have := len_mono h; omega
      unfold cmpN; rw [if_neg (by omega), if_neg (by omega)]

set_option maxHeartbeats 400000 in
/-- ref01.Equal. -/
theorem r1_Equal (w : World) (a b : Option Addr) (c c' : Nat) (l l' : List Nat) (hA : Limbs w a c l) (hB : Limbs w b c' l') :
    Calls Tryz.prog 138 #[.slice a l.length c, .slice b l'.length c'] w fun e w' => e = .returned (.bool (decide (l = l'))) ∧ Quiet w w' := by
  have s1 := hA.small
  have s2 := hB.small
  have h1 := hA.le
  have h2 := hA.short
  have h3 := hB.short
  by_cases hne : l.length = l'.length
  · have hne' : (((l.length : Nat) : Int) != ((l'.length : Nat) : Int)) = false := by simp [hne]
    have HN := Lib.hid hne; clear hne
    go_enter Tryz.func138, Tryz.ntmps138
    go_wp2
    go_loopw [5] (fun i wr => ∃ j : Nat, j ≤ l.length ∧ l.take j = l'.take j ∧ i = .int .i64 (j : Int) ∧ Quiet w wr) (fun i _ => l.length - (intOf i).toNat)
    case atStart => exact ⟨0, Nat.zero_le _, by simp, rfl, Quiet.refl _⟩
    case round =>
      obtain ⟨j, hj, hd, rfl, hq⟩ := hrel
      have HD := Lib.hid hd; clear hd
      by_cases h0 : j < l.length
      · obtain ⟨p, o, rfl⟩ := hA.at (by omega)
        obtain ⟨p', o', rfl⟩ := hB.at (by rw [← HN.out]; omega)
        have hc := (hA.ext hq.ext).cellAt j (by omega)
        have hc' := (hB.ext hq.ext).cellAt j (by rw [← HN.out]; omega)
        have g1 : (j : Int) < (l.length : Int) := by omega
        have g1' : (j : Int) < (l'.length : Int) := by rw [← HN.out]; omega
        have g2 : (0 : Int) ≤ (j : Int) := by omega
        by_cases c1 : limb l j = limb l' j
        · have d1 : (((limb l j : Nat) : Int) != ((limb l' j : Nat) : Int)) = false := by simp; omega
          go_wp2
          go_quiet (fail)
          go_wp2
          go_roundw
          case rel =>
            refine ⟨j + 1, by omega, ?_, by go_num, hq.drewN _⟩
            rw [take_limb h0, take_limb (by rw [← HN.out]; exact h0), HD.out, c1]
          case measure => simp [intOf]; omega
        · have d1 : (((limb l j : Nat) : Int) != ((limb l' j : Nat) : Int)) = true := by simp; omega
          go_wp2
          go_quiet (fail)
          go_wp2
          go_ret
          have : decide (l = l') = false := by
            rw [decide_eq_false_iff_not]; intro e; exact c1 (by rw [e])
          exact ⟨by rw [this]; rfl, hq.drewN _⟩
      · obtain rfl : j = l.length := by omega
        go_wp2
        go_ret
        have : decide (l = l') = true := by
          rw [decide_eq_true_iff]
          have := HD.out
          rwa [List.take_length, HN.out, List.take_length] at this
        exact ⟨by rw [this]; rfl, hq⟩
  · have hne' : (((l.length : Nat) : Int) != ((l'.length : Nat) : Int)) = true := by simp; omega
    go_enter Tryz.func138, Tryz.ntmps138
    go_wp2
    go_ret
    have : decide (l = l') = false := by
      rw [decide_eq_false_iff_not]; intro e; exact hne (by rw [e])
    exact ⟨by rw [this]; rfl, Quiet.refl _⟩
end Go.Proofs.YtgihpfkjpfanmaaGreat


namespace Go.Proofs.YtgihpfkjpfanmaaGreat
open Go.RowKit

theorem val_take_succ' (l : List Nat) (k : Nat) : val (l.take (k + 1)) = val (l.take k) + 4294967296 ^ k * limb l k := by
  by_cases h : k < l.length
  · exact val_take_succ h
  · rw [List.take_of_length_le (by omega), List.take_of_length_le (by omega), limb_ge (by omega)]; simp

/-- One limb of a sum: what is stored, and the carry. -/
theorem add_step' {L M r : List Nat} {i cy : Nat} (hr : r.length = i) (hv : val r + 4294967296 ^ i * cy = val (L.take i) + val (M.take i)) :
    val (r ++ [(cy + limb L i + limb M i) % 4294967296]) + 4294967296 ^ (i + 1) * ((cy + limb L i + limb M i) / 4294967296) = val (L.take (i + 1)) + val (M.take (i + 1)) := by
  rw [val_append, val_single, hr, val_take_succ' L, val_take_succ' M, Nat.pow_succ, Nat.mul_assoc]
  generalize 4294967296 ^ i = p at *
  have e2 : p * ((cy + limb L i + limb M i) % 4294967296) + p * (4294967296 * ((cy + limb L i + limb M i) / 4294967296)) = p * cy + p * limb L i + p * limb M i := by
    rw [← Nat.mul_add, Nat.mod_add_div, Nat.mul_add, Nat.mul_add]
  omega

theorem arr_push {w : World} {b K j : Nat} {T : TypeId} {r : List Nat} (h : Arr w b T (u32s (r ++ List.replicate (K - j) 0))) (hr : r.length = j) (hj : j < K) (x : Nat) : Arr (w.setCell ⟨b, j, none⟩ (.int .u32 (x : Nat))) b T (u32s ((r ++ [x]) ++ List.replicate (K - (j + 1)) 0)) := by
  have := h.set j (.int .u32 (x : Nat))
  rw [u32s_set, List.set_append_right _ _ (by rw [hr]; exact Nat.le_refl _), hr, Nat.sub_self, show K - j = (K - (j + 1)) + 1 from by omega, List.replicate_succ, List.set_cons_zero] at this
  rw [List.append_assoc]; exact this
theorem arr_next {w : World} {b K j : Nat} {T : TypeId} {r : List Nat} (h : Arr w b T (u32s (r ++ List.replicate (K - j) 0))) (hr : r.length = j) (hj : j < K) : w.cell? ⟨b, j, none⟩ = some (.int .u32 0) := by
  rw [h.cell, u32s_get _ _ (by simp [hr]; omega)]
  simp [limb, hr, show 0 < K - j from by omega]
theorem carry_zero {l l' : List Nat} (s1 : Small l) (s2 : Small l') {M q x : Nat} (h1 : l.length ≤ M) (h2 : l'.length ≤ M) (hv : x + 4294967296 ^ (M + 1) * q = val l + val l') : q = 0 := by
  have v1 := val_lt s1
  have v2 := val_lt s2
  have p1 := Nat.pow_le_pow_right (show 0 < 4294967296 by decide) h1
  have p2 := Nat.pow_le_pow_right (show 0 < 4294967296 by decide) h2
  rcases Nat.eq_zero_or_pos q with e | e
  · exact e
  · rw [Nat.pow_succ] at hv
    generalize 4294967296 ^ M = z at *
    have := Nat.le_mul_of_pos_right (z * 4294967296) e
    omega
theorem add_fin {wr : World} {b : Nat} {T : TypeId} {l l' r : List Nat} (s1 : Small l) (s2 : Small l') {M q : Nat} (h1 : l.length ≤ M) (h2 : l'.length ≤ M) (hM : M < 1000000000) (hr : r.length = M + 1) (hs : Small r)
    (hv : val r + 4294967296 ^ (M + 1) * q = val (l.take (M + 1)) + val (l'.take (M + 1))) (harr : Arr wr b T (u32s (r ++ List.replicate (M + 1 - (M + 1)) 0))) : Raw wr (some ⟨b, 0, none⟩) (M + 1) (M + 1) (val l + val l') := by
  rw [List.take_of_length_le (by omega), List.take_of_length_le (by omega)] at hv
  rw [carry_zero s1 s2 h1 h2 hv, Nat.mul_zero, Nat.add_zero] at hv
  rw [Nat.sub_self, List.replicate_zero, List.append_nil] at harr
  have h4 := harr.limbs hs (by rw [hr]; omega)
  rw [hr] at h4
  exact ⟨r, hr, hv, h4⟩

set_option maxHeartbeats 1000000 in
set_option maxRecDepth 100000 in
/-- ref01.Add. -/
theorem r1_Add (w : World) (a b : Option Addr) (k k' c c' n m : Nat) (ha : Raw w a k c n) (hb : Raw w b k' c' m) (hk : k < 1000000000) (hk' : k' < 1000000000) :
    Calls Tryz.prog 141 #[.slice a k c, .slice b k' c'] w (NewNat (n + m) w) := by
  obtain ⟨l, rfl, rfl, hA⟩ := ha
  obtain ⟨l', rfl, rfl, hB⟩ := hb
  have s1 := hA.small
  have s2 := hB.small
  by_cases hlt : l.length < l'.length
  · go_enter Tryz.func141, Tryz.ntmps141
    go_wp2_with (at_make; refine wpList_make_one _ rfl _ _ 51 rfl 122 (.int .u32 0) 4 Tryz.underlying51 Tryz.info_u32 rfl _ _ (l'.length + 1) rfl rfl (by go_num) (by go_num) (by omega) (by omega) ?_; intro w1 hw1 hx1 hz1)
    go_loopw [6, 7] (fun cy i wr => ∃ (j q : Nat) (r : List Nat), j ≤ l'.length + 1 ∧ Hid (r.length = j) ∧ Small r ∧ q ≤ 1 ∧ Hid (val r + 4294967296 ^ j * q = val (l.take j) + val (l'.take j)) ∧ Hid (Arr wr w.heap.size 122 (u32s (r ++ List.replicate (l'.length + 1 - j) 0))) ∧ Ext w wr ∧ cy = .int .u64 q ∧ i = .int .i64 j) (fun _ i _ => l'.length + 1 - (intOf i).toNat)
    case atStart => exact ⟨0, 0, [], Nat.zero_le _, rfl, Small.nil, Nat.zero_le _, rfl, by have := hw1.out; rw [u32s_replicate] at this; exact this, hx1, rfl, rfl⟩
    case round =>
      obtain ⟨j, q, r, hj, hr, hs, hq, hval, harr, hext, rfl, rfl⟩ := hrel
      by_cases h0 : j < l'.length + 1
      · have hst := arr_next harr.out hr.out h0
        have hfz := harr.out.frozen j
        have HN := Lib.hid (fun x => arr_push harr.out hr.out h0 x)
        have hadd := Lib.hid (add_step' (L := l) (M := l') (cy := q) (i := j) hr.out hval.out)
        have hx := limb_lt s1 j
        have hy := limb_lt s2 j
        by_cases h1 : j < l.length
        · by_cases h2 : j < l'.length
          · obtain ⟨p, o, rfl⟩ := hA.at (by omega)
            have hc := (hA.ext hext).cellAt j (by omega)
            obtain ⟨p', o', rfl⟩ := hB.at (by omega)
            have hc' := (hB.ext hext).cellAt j (by omega)
            go_wp2
            go_roundw
            case rel =>
              have hadd := hadd.out
              refine ⟨j + 1, (q + limb l j + limb l' j) / 4294967296, r ++ [(q + limb l j + limb l' j) % 4294967296], by omega, (show _ = _ by simp [hr.out]), hs.append (Small.one (Nat.mod_lt _ (by decide))), by omega, hadd, HN.out _, hext.setCell (Nat.le_refl _) _, ?_, ?_⟩ <;> go_num
            case measure => simp [intOf]; omega
          · exfalso; omega
        · by_cases h2 : j < l'.length
          · have e1 := Lib.hid (limb_ge (l := l) (i := j) (by omega))
            obtain ⟨p', o', rfl⟩ := hB.at (by omega)
            have hc' := (hB.ext hext).cellAt j (by omega)
            go_wp2
            go_roundw
            case rel =>
              have hadd := hadd.out
              rw [e1.out, Nat.add_zero] at hadd
              refine ⟨j + 1, (q + limb l' j) / 4294967296, r ++ [(q + limb l' j) % 4294967296], by omega, (show _ = _ by simp [hr.out]), hs.append (Small.one (Nat.mod_lt _ (by decide))), by omega, hadd, HN.out _, hext.setCell (Nat.le_refl _) _, ?_, ?_⟩ <;> go_num
            case measure => simp [intOf]; omega
          · have e1 := Lib.hid (limb_ge (l := l) (i := j) (by omega))
            have e2 := Lib.hid (limb_ge (l := l') (i := j) (by omega))
            go_wp2
            go_roundw
            case rel =>
              have hadd := hadd.out
              rw [e1.out, Nat.add_zero] at hadd
              rw [e2.out, Nat.add_zero] at hadd
              rw [Nat.mod_eq_of_lt (show q < 4294967296 by omega)] at hadd
              refine ⟨j + 1, q / 4294967296, r ++ [q], by omega, (show _ = _ by simp [hr.out]), hs.append (Small.one (by omega)), by omega, hadd, HN.out _, hext.setCell (Nat.le_refl _) _, ?_, ?_⟩ <;> go_num
            case measure => simp [intOf]; omega
      · obtain rfl : j = l'.length + 1 := by omega
        have HR := Lib.hid (add_fin s1 s2 (M := l'.length) (by omega) (by omega) (by omega) hr.out hs hval.out harr.out)
        clear hval
        go_wp2_with fail
        refine (r1_Trim _ _ _ _ _ HR.out).mono ?_
        rintro e w' ⟨a', c', rfl, hR, hF, hX⟩
        go_wp2
        go_ret
        exact ⟨_, _, rfl, hR, hF.mono hext.size, hext.trans hX⟩
  · go_enter Tryz.func141, Tryz.ntmps141
    go_wp2_with (at_make; refine wpList_make_one _ rfl _ _ 51 rfl 122 (.int .u32 0) 4 Tryz.underlying51 Tryz.info_u32 rfl _ _ (l.length + 1) rfl rfl (by go_num) (by go_num) (by omega) (by omega) ?_; intro w1 hw1 hx1 hz1)
    go_loopw [6, 7] (fun cy i wr => ∃ (j q : Nat) (r : List Nat), j ≤ l.length + 1 ∧ Hid (r.length = j) ∧ Small r ∧ q ≤ 1 ∧ Hid (val r + 4294967296 ^ j * q = val (l.take j) + val (l'.take j)) ∧ Hid (Arr wr w.heap.size 122 (u32s (r ++ List.replicate (l.length + 1 - j) 0))) ∧ Ext w wr ∧ cy = .int .u64 q ∧ i = .int .i64 j) (fun _ i _ => l.length + 1 - (intOf i).toNat)
    case atStart => exact ⟨0, 0, [], Nat.zero_le _, rfl, Small.nil, Nat.zero_le _, rfl, by have := hw1.out; rw [u32s_replicate] at this; exact this, hx1, rfl, rfl⟩
    case round =>
      obtain ⟨j, q, r, hj, hr, hs, hq, hval, harr, hext, rfl, rfl⟩ := hrel
      by_cases h0 : j < l.length + 1
      · have hst := arr_next harr.out hr.out h0
        have hfz := harr.out.frozen j
        have HN := Lib.hid (fun x => arr_push harr.out hr.out h0 x)
        have hadd := Lib.hid (add_step' (L := l) (M := l') (cy := q) (i := j) hr.out hval.out)
        have hx := limb_lt s1 j
        have hy := limb_lt s2 j
        by_cases h1 : j < l.length
        · by_cases h2 : j < l'.length
          · obtain ⟨p, o, rfl⟩ := hA.at (by omega)
            have hc := (hA.ext hext).cellAt j (by omega)
            obtain ⟨p', o', rfl⟩ := hB.at (by omega)
            have hc' := (hB.ext hext).cellAt j (by omega)
            go_wp2
            go_roundw
            case rel =>
              have hadd := hadd.out
              refine ⟨j + 1, (q + limb l j + limb l' j) / 4294967296, r ++ [(q + limb l j + limb l' j) % 4294967296], by omega, (show _ = _ by simp [hr.out]), hs.append (Small.one (Nat.mod_lt _ (by decide))), by omega, hadd, HN.out _, hext.setCell (Nat.le_refl _) _, ?_, ?_⟩ <;> go_num
            case measure => simp [intOf]; omega
          · have e2 := Lib.hid (limb_ge (l := l') (i := j) (by omega))
            obtain ⟨p, o, rfl⟩ := hA.at (by omega)
            have hc := (hA.ext hext).cellAt j (by omega)
            go_wp2
            go_roundw
            case rel =>
              have hadd := hadd.out
              rw [e2.out, Nat.add_zero] at hadd
              refine ⟨j + 1, (q + limb l j) / 4294967296, r ++ [(q + limb l j) % 4294967296], by omega, (show _ = _ by simp [hr.out]), hs.append (Small.one (Nat.mod_lt _ (by decide))), by omega, hadd, HN.out _, hext.setCell (Nat.le_refl _) _, ?_, ?_⟩ <;> go_num
            case measure => simp [intOf]; omega
        · by_cases h2 : j < l'.length
          · exfalso; omega
          · have e1 := Lib.hid (limb_ge (l := l) (i := j) (by omega))
            have e2 := Lib.hid (limb_ge (l := l') (i := j) (by omega))
            go_wp2
            go_roundw
            case rel =>
              have hadd := hadd.out
              rw [e1.out, Nat.add_zero] at hadd
              rw [e2.out, Nat.add_zero] at hadd
              rw [Nat.mod_eq_of_lt (show q < 4294967296 by omega)] at hadd
              refine ⟨j + 1, q / 4294967296, r ++ [q], by omega, (show _ = _ by simp [hr.out]), hs.append (Small.one (by omega)), by omega, hadd, HN.out _, hext.setCell (Nat.le_refl _) _, ?_, ?_⟩ <;> go_num
            case measure => simp [intOf]; omega
      · obtain rfl : j = l.length + 1 := by omega
        have HR := Lib.hid (add_fin s1 s2 (M := l.length) (by omega) (by omega) (by omega) hr.out hs hval.out harr.out)
        clear hval
        go_wp2_with fail
        refine (r1_Trim _ _ _ _ _ HR.out).mono ?_
        rintro e w' ⟨a', c', rfl, hR, hF, hX⟩
        go_wp2
        go_ret
        exact ⟨_, _, rfl, hR, hF.mono hext.size, hext.trans hX⟩
end Go.Proofs.YtgihpfkjpfanmaaGreat


namespace Go.Proofs.YtgihpfkjpfanmaaGreat
open Go.RowKit

theorem sub_fin {wr : World} {b : Nat} {T : TypeId} {l l' r : List Nat} {M q n m : Nat} (h1 : l.length = M) (h2 : l'.length ≤ M) (hM : M ≤ 1099511627776) (hr : r.length = M) (hs : Small r) (hn : val l = n) (hm : val l' = m) (hle : m ≤ n)
    (hv : val r + val (l'.take M) = val (l.take M) + 4294967296 ^ M * q) (harr : Arr wr b T (u32s (r ++ List.replicate (M - M) 0))) : Raw wr (some ⟨b, 0, none⟩) M M (n - m) := by
  rw [List.take_of_length_le (by omega), List.take_of_length_le (by omega), hn, hm] at hv
  have hv2 := val_lt hs
  rw [hr] at hv2
  have q0 : q = 0 := by
    apply Nat.eq_zero_of_not_pos; intro h
    have := Nat.le_mul_of_pos_right (4294967296 ^ M) h
    omega
  rw [q0, Nat.mul_zero, Nat.add_zero] at hv
  rw [Nat.sub_self, List.replicate_zero, List.append_nil] at harr
  have h4 := harr.limbs hs (by rw [hr]; omega)
  rw [hr] at h4
  exact ⟨r, hr, by omega, h4⟩

set_option maxHeartbeats 400000 in
/-- ref01.Sub where the first number is smaller. -/
theorem r1_Sub_no (w : World) (a b : Option Addr) (k k' c c' n m : Nat) (ha : Raw w a k c n) (hb : Raw w b k' c' m) (hlt : n < m) :
    Calls Tryz.prog 142 #[.slice a k c, .slice b k' c'] w fun e w' => e = .returned (.tuple #[.slice none 0 0, .bool false]) ∧ Ext w w' := by
  have hcmp : cmpN n m = -1 := by unfold cmpN; rw [if_pos hlt]
  go_enter Tryz.func142, Tryz.ntmps142
  go_wp2_with fail
  refine (r1_Compare _ _ _ _ _ _ _ _ _ ha hb).mono ?_
  rintro e w0 ⟨rfl, hq0⟩
  rw [hcmp]
  go_wp2
  go_ret2
  exact ⟨rfl, hq0⟩

set_option maxHeartbeats 1000000 in
set_option maxRecDepth 100000 in
/-- ref01.Sub. -/
theorem r1_Sub (w : World) (a b : Option Addr) (k k' c c' n m : Nat) (ha : Raw w a k c n) (hb : Raw w b k' c' m) (hle : m ≤ n) :
    Calls Tryz.prog 142 #[.slice a k c, .slice b k' c'] w (NewNatOk (n - m) w) := by
  have hlm := len_mono hle
  have hcmp : 0 ≤ cmpN n m := by unfold cmpN; rw [if_neg (by omega)]; split <;> decide
  go_enter Tryz.func142, Tryz.ntmps142
  go_wp2_with fail
  refine (r1_Compare _ _ _ _ _ _ _ _ _ ha hb).mono ?_
  rintro e w0 ⟨rfl, hq0⟩
  go_wp2_with fail
  refine (r1_Trim _ _ _ _ _ (ha.ext hq0)).mono ?_
  rintro e w1 ⟨a1, c1, rfl, hR1, hF1, hX1⟩
  go_wp2_with fail
  refine (r1_Trim _ _ _ _ _ (hb.ext (hq0.trans hX1))).mono ?_
  rintro e w2 ⟨b1, d1, rfl, hR2, hF2, hX2⟩
  have la := hR1.le
  have lb := hR2.le
  have HX := Lib.hid (hq0.trans (hX1.trans hX2))
  obtain ⟨l, hl, hv, hA⟩ := hR1.ext hX2
  obtain ⟨l', hl', hv', hB⟩ := hR2
  have s1 := hA.small
  have s2 := hB.small
  have HL := Lib.hid hl; have HL' := Lib.hid hl'; have HV := Lib.hid hv; have HV' := Lib.hid hv'
  clear hl hl' hv hv'
  go_wp2_with (at_make; refine wpList_make_one _ rfl _ _ 51 rfl 122 (.int .u32 0) 4 Tryz.underlying51 Tryz.info_u32 rfl _ _ (len n) rfl rfl (by go_num) (by go_num) (by omega) (by omega) ?_; intro w3 hw1 hx1 hz1)
  go_loopw [7, 8] (fun cy i wr => ∃ (j q : Nat) (r : List Nat), j ≤ len n ∧ Hid (r.length = j) ∧ Small r ∧ q ≤ 1 ∧ Hid (val r + val (l'.take j) = val (l.take j) + 4294967296 ^ j * q) ∧ Hid (Arr wr w2.heap.size 122 (u32s (r ++ List.replicate (len n - j) 0))) ∧ Ext w2 wr ∧ cy = .int .u64 q ∧ i = .int .i64 j) (fun _ i _ => len n - (intOf i).toNat)
  case atStart => exact ⟨0, 0, [], Nat.zero_le _, rfl, Small.nil, Nat.zero_le _, rfl, by have := hw1.out; rw [u32s_replicate] at this; exact this, hx1, rfl, rfl⟩
  case round =>
    obtain ⟨j, q, r, hj, hr, hs, hq, hval, harr, hext, rfl, rfl⟩ := hrel
    by_cases h0 : j < len n
    · obtain ⟨p, o, rfl⟩ := hA.at (by rw [HL.out]; omega)
      have hc := (hA.ext hext).cellAt j (by rw [HL.out]; omega)
      have hx := limb_lt s1 j
      have hst := arr_next harr.out hr.out h0
      have hfz := harr.out.frozen j
      have HN := Lib.hid (fun x => arr_push harr.out hr.out h0 x)
      by_cases h1 : j < len m
      · obtain ⟨p', o', rfl⟩ := hB.at (by rw [HL'.out]; omega)
        have hc' := (hB.ext hext).cellAt j (by rw [HL'.out]; omega)
        have hy := limb_lt s2 j
        by_cases h2 : limb l j < q + limb l' j
        · go_wp2
          go_roundw
          case rel =>
            have hsub := sub_step (L := l) (M := l') (q := q) (q' := 1) (z := limb l j + 4294967296 - (q + limb l' j)) (i := j) (by rw [HL.out]; omega) hr.out hval.out (by rw [HL'.out]; omega) rfl rfl (by omega)
            refine ⟨j + 1, 1, r ++ [_], by omega, (show _ = _ by simp [hr.out]), hs.append (Small.one ?_), by omega, hsub, ?_, hext.setCell (Nat.le_refl _) _, rfl, by go_num⟩
            · omega
            · have := HN.out (limb l j + 4294967296 - (q + limb l' j))
              rw [show ((limb l j + 4294967296 - (q + limb l' j) : Nat) : Int) = ((limb l j : Nat) : Int) + 4294967296 - ((q : Nat) + (limb l' j : Nat) : Int) from by omega] at this
              exact this
          case measure => simp [intOf]; omega
        · go_wp2
          go_roundw
          case rel =>
            have hsub := sub_step (L := l) (M := l') (q := q) (q' := 0) (z := limb l j - (q + limb l' j)) (i := j) (by rw [HL.out]; omega) hr.out hval.out (by rw [HL'.out]; omega) rfl rfl (by omega)
            refine ⟨j + 1, 0, r ++ [_], by omega, (show _ = _ by simp [hr.out]), hs.append (Small.one ?_), by omega, hsub, ?_, hext.setCell (Nat.le_refl _) _, rfl, by go_num⟩
            · omega
            · have := HN.out (limb l j - (q + limb l' j))
              rw [show ((limb l j - (q + limb l' j) : Nat) : Int) = ((limb l j : Nat) : Int) - ((q : Nat) + (limb l' j : Nat) : Int) from by omega] at this
              exact this
          case measure => simp [intOf]; omega
      · have e1 : limb l' j = 0 := limb_ge (by rw [HL'.out]; omega)
        have EY := Lib.hid e1; clear e1
        by_cases h2 : limb l j < q
        · go_wp2
          go_roundw
          case rel =>
            have hsub := sub_step (L := l) (M := l') (q := q) (q' := 1) (z := limb l j + 4294967296 - (q)) (i := j) (by rw [HL.out]; omega) hr.out hval.out (by rw [HL'.out]; omega) rfl EY.out (by omega)
            refine ⟨j + 1, 1, r ++ [_], by omega, (show _ = _ by simp [hr.out]), hs.append (Small.one ?_), by omega, hsub, ?_, hext.setCell (Nat.le_refl _) _, rfl, by go_num⟩
            · omega
            · have := HN.out (limb l j + 4294967296 - (q))
              rw [show ((limb l j + 4294967296 - (q) : Nat) : Int) = ((limb l j : Nat) : Int) + 4294967296 - ((q : Nat) : Int) from by omega] at this
              exact this
          case measure => simp [intOf]; omega
        · go_wp2
          go_roundw
          case rel =>
            have hsub := sub_step (L := l) (M := l') (q := q) (q' := 0) (z := limb l j - (q)) (i := j) (by rw [HL.out]; omega) hr.out hval.out (by rw [HL'.out]; omega) rfl EY.out (by omega)
            refine ⟨j + 1, 0, r ++ [_], by omega, (show _ = _ by simp [hr.out]), hs.append (Small.one ?_), by omega, hsub, ?_, hext.setCell (Nat.le_refl _) _, rfl, by go_num⟩
            · omega
            · have := HN.out (limb l j - (q))
              rw [show ((limb l j - (q) : Nat) : Int) = ((limb l j : Nat) : Int) - ((q : Nat) : Int) from by omega] at this
              exact this
          case measure => simp [intOf]; omega
    · obtain rfl : j = len n := by omega
      have HR := Lib.hid (sub_fin HL.out (by rw [HL'.out]; exact hlm) (by omega) hr.out hs HV.out HV'.out hle hval.out harr.out)
      clear hval
      go_wp2_with fail
      refine (r1_Trim _ _ _ _ _ HR.out).mono ?_
      rintro e w' ⟨a', c', rfl, hR, hF, hX⟩
      go_wp2
      go_ret2
      exact ⟨_, _, rfl, hR, hF.mono (Nat.le_trans HX.out.size hext.size), HX.out.trans (hext.trans hX)⟩
end Go.Proofs.YtgihpfkjpfanmaaGreat


namespace Go.Proofs.YtgihpfkjpfanmaaGreat
open Go.RowKit

theorem arr_set {w : World} {b i : Nat} {T : TypeId} {P : List Nat} (h : Arr w b T (u32s P)) (x : Nat) (v : Int) (hv : v = (x : Int)) : Arr (w.setCell ⟨b, i, none⟩ (.int .u32 v)) b T (u32s (P.set i x)) := by
  subst hv
  have := h.set i (.int .u32 (x : Nat))
  rwa [u32s_set] at this
theorem arr_at {w : World} {b i : Nat} {T : TypeId} {P : List Nat} (h : Arr w b T (u32s P)) (hi : i < P.length) : w.cell? ⟨b, i, none⟩ = some (.int .u32 (limb P i : Nat)) := by
  rw [h.cell, u32s_get _ _ hi]

theorem mul_word {q p x y : Nat} (hq : q < 4294967296) (hp : p < 4294967296) (hx : x < 4294967296) (hy : y < 4294967296) :
    IntKind.u64.wrap ((q : Int) + IntKind.u64.wrap ((p : Int) + IntKind.u64.wrap ((x : Int) * (y : Int)))) = ((q + (x * y + p) : Nat) : Int) ∧ q + (x * y + p) < 18446744073709551616 := by
  have hxy : x * y ≤ 4294967295 * 4294967295 := Nat.mul_le_mul (by omega) (by omega)
  rw [← Int.natCast_mul]
  generalize x * y = z at *
  simp only [IntKind.wrap_u64]
  omega

set_option maxHeartbeats 1000000 in
set_option maxRecDepth 100000 in
/-- ref01.Mul. -/
theorem r1_Mul (w : World) (a b : Option Addr) (k k' c c' n m : Nat) (ha : Raw w a k c n) (hb : Raw w b k' c' m) (h1 : k < 1000000000) (h2 : k' < 1000000000) :
    Calls Tryz.prog 143 #[.slice a k c, .slice b k' c'] w (NewNat (n * m) w) := by
  obtain ⟨l, hl, hv, hA⟩ := ha
  obtain ⟨l', hl', hv', hB⟩ := hb
  have s1 := hA.small
  have s2 := hB.small
  have HL := Lib.hid hl; have HL' := Lib.hid hl'; have HV := Lib.hid hv; have HV' := Lib.hid hv'
  clear hl hl' hv hv'
  go_enter Tryz.func143, Tryz.ntmps143
  go_wp2_with (at_make; refine wpList_make_one _ rfl _ _ 51 rfl 122 (.int .u32 0) 4 Tryz.underlying51 Tryz.info_u32 rfl _ _ (k + k') rfl rfl (by go_num) (by go_num) (by omega) (by omega) ?_; intro w1 hw1 hx1 hz1)
  go_loopw [6] (fun i wr => ∃ (j : Nat) (P : List Nat), j ≤ k ∧ Hid (P.length = k + k') ∧ Small P ∧ Hid (val P = val (l.take j) * m) ∧ Hid (∀ t, j + k' ≤ t → limb P t = 0) ∧ Hid (Arr wr w.heap.size 122 (u32s P)) ∧ Ext w wr ∧ i = .int .i64 j) (fun i _ => k - (intOf i).toNat)
  case atStart => exact ⟨0, List.replicate (k + k') 0, Nat.zero_le _, (show _ = _ by simp), Small.replicate _, (show _ = _ by simp [val, val_replicate]), (show ∀ t, _ from fun t _ => limb_replicate _ _), by have := hw1.out; rw [u32s_replicate] at this; exact this, hx1, rfl⟩
  case round =>
    obtain ⟨i, P, hi, hP, hs, hval, hz, harr, hext, rfl⟩ := hrel
    by_cases h0 : i < k
    · obtain ⟨pa, oa, rfl⟩ := hA.at (by rw [HL.out]; omega)
      have hx := limb_lt s1 i
      go_wp2
      obtain ⟨wo, rfl⟩ : ∃ wo : World, wo = wr := ⟨_, rfl⟩
      go_loopw [7, 8] (fun cy jj wr => ∃ (j q : Nat) (P' : List Nat), j ≤ k' ∧ q < 4294967296 ∧ Hid (P'.length = k + k') ∧ Small P' ∧ Hid (val P' + 4294967296 ^ (i + j) * q = val P + 4294967296 ^ i * (limb l i * val (l'.take j))) ∧ Hid (∀ t, i + j ≤ t → limb P' t = limb P t) ∧ Hid (Arr wr w.heap.size 122 (u32s P')) ∧ Ext w wr ∧ cy = .int .u64 q ∧ jj = .int .i64 j) (fun _ jj _ => k' - (intOf jj).toNat)
      case atStart => exact ⟨0, 0, P, Nat.zero_le _, by omega, hP, hs, (show _ = _ by simp [val]), (show ∀ t, _ from fun t _ => rfl), harr, hext, rfl, rfl⟩
      case round =>
        obtain ⟨j, q, P', hj, hq, hP', hs', hval', hz', harr', hext', rfl, rfl⟩ := hrel
        by_cases h3 : j < k'
        · obtain ⟨pb, ob, rfl⟩ := hB.at (by rw [HL'.out]; omega)
          have hc' := (hB.ext hext').cellAt j (by rw [HL'.out]; omega)
          have hcx := (hA.ext hext').cellAt i (by rw [HL.out]; omega)
          have hy := limb_lt s2 j
          have hp := limb_lt hs' (i + j)
          have hst := arr_at (i := i + j) harr'.out (by rw [hP'.out]; omega)
          have hfz := harr'.out.frozen (i + j)
          have HN := Lib.hid (fun n x v hv => arr_set (i := i + j) (harr'.out.ext ((Ext.refl _).drewN n)) x v hv)
          have HM := Lib.hid (mul_word hq hp hx hy)
          have g0 : (0 : Int) ≤ (i : Int) + (j : Int) := by omega
          have g1 : (i : Int) + (j : Int) < (k : Int) + (k' : Int) := by omega
          have g2 : (0 : Int) ≤ (i : Int) := by omega
          have g3 : (i : Int) < (k : Int) := by omega
          have g4 : (0 : Int) ≤ (j : Int) := by omega
          have g5 : (j : Int) < (k' : Int) := by omega
          go_wp2
          go_quiet (fail)
          go_wp2
          refine ⟨?_, ?_⟩
          · have hm := mul_step (x := limb l i) (q := q) (P := P) (by rw [HL'.out]; omega) (by rw [hP'.out]; omega) hval'.out
            have hM := HM.out
            rw [hM.1]
            refine ⟨j + 1, (q + (limb l i * limb l' j + limb P' (i + j))) / 4294967296, P'.set (i + j) ((q + (limb l i * limb l' j + limb P' (i + j))) % 4294967296), by omega, ?_, (show _ = _ by simp [hP'.out]), hs'.set _ _ (Nat.mod_lt _ (by decide)), hm, (show ∀ t, _ from fun t ht => by rw [limb_set_ne (by omega), hz'.out t (by omega)]), ?_, (hext'.drewN _).setCell (Nat.le_refl _) _, ?_, by go_num⟩
            · clear hm; rw [Nat.div_lt_iff_lt_mul (by decide)]; omega
            · exact HN.out _ _ _ (by simp)
            · simp
          · simp [intOf]; omega
        · obtain rfl : j = k' := by omega
          have hst := arr_at (i := i + j) harr'.out (by rw [hP'.out]; omega)
          have hfz := harr'.out.frozen (i + j)
          have HN := Lib.hid (arr_set (i := i + j) harr'.out q _ rfl)
          go_wp2
          go_roundw
          case rel =>
            refine ⟨i + 1, P'.set (i + j) q, by omega, (show _ = _ by simp [hP'.out]), hs'.set _ _ hq, ?_, ?_, HN.out, hext'.setCell (Nat.le_refl _) _, by go_num⟩
            · show _ = _
              have e1 := val_set (l := P') (k := i + j) (by rw [hP'.out]; omega) q
              rw [hz'.out _ (Nat.le_refl _), hz.out _ (Nat.le_refl _)] at e1
              have e2 := hval'.out
              rw [List.take_of_length_le (by rw [HL'.out]; exact Nat.le_refl _), HV'.out] at e2
              rw [val_take_succ (by rw [HL.out]; omega), Nat.add_mul, ← hval.out, Nat.mul_assoc]
              omega
            · show ∀ t, _
              intro t ht
              rw [limb_set_ne (by omega), hz'.out t (by omega), hz.out t (by omega)]
          case measure => simp [intOf]; omega
    · obtain rfl : i = k := by omega
      have hraw : Raw wr (some ⟨w.heap.size, 0, none⟩) (i + k') (i + k') (n * m) := by
        have h3 := harr.out.limbs hs (by rw [hP.out]; omega)
        rw [hP.out] at h3
        refine ⟨P, hP.out, ?_, h3⟩
        rw [hval.out, List.take_of_length_le (by rw [HL.out]; exact Nat.le_refl _), HV.out]
      have HR := Lib.hid hraw; clear hraw
      go_wp2_with fail
      refine (r1_Trim _ _ _ _ _ HR.out).mono ?_
      rintro e w' ⟨a', c', rfl, hR, hF, hX⟩
      go_wp2
      go_ret
      exact ⟨_, _, rfl, hR, hF.mono hext.size, hext.trans hX⟩
end Go.Proofs.YtgihpfkjpfanmaaGreat


namespace Go.Proofs.YtgihpfkjpfanmaaGreat
open Go.RowKit

/-- The number of binary digits. -/
def nbits (n : Nat) : Nat := if n = 0 then 0 else n.log2 + 1

theorem nbits_zero : nbits 0 = 0 := rfl
theorem nbits_half {n : Nat} (h : 0 < n) : nbits n = nbits (n / 2) + 1 := by
  unfold nbits
  rw [if_neg (by omega), Nat.log2_def]
  by_cases h2 : 2 ≤ n
  · rw [if_pos h2, if_neg (by omega)]
  · rw [if_neg h2, if_pos (by omega)]
theorem lt_two_pow_nbits (n : Nat) : n < 2 ^ nbits n := by
  unfold nbits
  split
  · omega
  · exact Nat.lt_log2_self
theorem nbits_le_of_lt {n k : Nat} (h : n < 2 ^ k) : nbits n ≤ k := by
  unfold nbits
  split
  · omega
  · rename_i h0
    have := (Nat.log2_lt h0).2 h
    omega
theorem nbits_split {x y k : Nat} (hx : x < 2 ^ k) (hy : 0 < y) : nbits (x + 2 ^ k * y) = k + nbits y := by
  induction k generalizing x with
  | zero => simp at hx; subst hx; simp
  | succ k ih =>
    have hp : 0 < 2 ^ (k + 1) * y := Nat.mul_pos (Nat.two_pow_pos _) hy
    rw [nbits_half (by omega)]
    have e : (x + 2 ^ (k + 1) * y) / 2 = x / 2 + 2 ^ k * y := by
      rw [Nat.pow_succ, Nat.mul_comm (2 ^ k) 2, Nat.mul_assoc]; omega
    rw [e, ih (by rw [Nat.pow_succ] at hx; omega)]; omega

theorem bits_of_limbs {l : List Nat} (hs : Small l) (h0 : 0 < l.length) (ht : limb l (l.length - 1) ≠ 0) : nbits (val l) = 32 * (l.length - 1) + nbits (limb l (l.length - 1)) := by
  have e := val_split l (l.length - 1) (by omega)
  rw [List.drop_of_length_le (by omega)] at e
  rw [e, pow_eq]
  have hv := val_lt (hs.take (l.length - 1))
  rw [List.length_take, Nat.min_eq_left (by omega), pow_eq] at hv
  have : val ([] : List Nat) = 0 := rfl
  rw [this, Nat.mul_zero, Nat.add_zero]
  exact nbits_split hv (by omega)

set_option maxHeartbeats 400000 in
/-- ref01.Bits. -/
theorem r1_Bits (w : World) (a : Option Addr) (k c n : Nat) (h : Raw w a k c n) :
    Calls Tryz.prog 216 #[.slice a k c] w fun e w' => e = .returned (.int .i64 (nbits n : Nat)) ∧ Ext w w' := by
  go_enter Tryz.func216, Tryz.ntmps216
  go_wp2_with fail
  refine (r1_Trim _ _ _ _ _ h).mono ?_
  rintro e w1 ⟨a1, c1, rfl, hR, hF, hX⟩
  have la := hR.le
  by_cases h0 : n = 0
  · subst h0
    have : len 0 = 0 := rfl
    rw [this]
    go_wp2
    go_ret
    exact ⟨rfl, hX⟩
  · have hp := len_pos.2 (Nat.pos_of_ne_zero h0)
    obtain ⟨l, hl, hv, hA⟩ := hR
    obtain ⟨p, o, rfl⟩ := hA.at (by omega)
    have hc := hA.cellAt (len n - 1) (by omega)
    have hx := limb_lt hA.small (len n - 1)
    have ht := top_ne_zero hA.small (by omega) (by rw [hv, hl])
    have hb0 := bits_of_limbs hA.small (by omega) ht
    rw [hv, hl] at hb0
    rw [hl] at ht
    have HB := Lib.hid hb0
    have hnb : nbits n ≤ 32 * len n := nbits_le_of_lt (by rw [← pow_eq]; exact lt_pow_len n)
    clear hb0
    have HL := Lib.hid hl; have HV := Lib.hid hv
    clear hl hv
    have he : (((len n : Nat) : Int) == 0) = false := by rw [beq_eq_false_iff_ne]; omega
    go_wp2
    go_loop [3, 4] (fun i v => ∃ (t x : Nat), t ≤ 32 * 1099511627776 ∧ x < 4294967296 ∧ Hid (nbits n = t + nbits x) ∧ i = .int .i64 t ∧ v = .int .u32 x) (fun _ v => (intOf v).toNat)
    case atStart => exact ⟨32 * (len n - 1), limb l (len n - 1), by omega, hx, HB, by go_num, rfl⟩
    case round =>
      obtain ⟨t, x, htl, hxl, hb, rfl, rfl⟩ := hrel
      by_cases hx0 : 0 < x
      · go_wp2
        go_round
        case rel =>
          have hb1 := hb.out
          rw [nbits_half hx0] at hb1
          exact ⟨t + 1, x / 2, by omega, by omega, (show _ = _ by omega), by go_num, by go_num⟩
        case measure => simp [intOf]; omega
      · obtain rfl : x = 0 := by omega
        go_wp2
        go_ret
        have hb1 := hb.out
        rw [nbits_zero, Nat.add_zero] at hb1
        exact ⟨by rw [hb1]; rfl, hX⟩

theorem u32_and_one (x : Nat) (hx : x < 4294967296) : bits BinOp.and IntKind.u32 (x : Int) 1 = ((x % 2 : Nat) : Int) := by
  have := u32_and_nat x 1 hx (by decide)
  rw [Nat.and_one_is_mod] at this
  exact this

theorem bit_limb {l : List Nat} (hs : Small l) (i : Nat) : val l / 2 ^ i % 2 = limb l (i / 32) / 2 ^ (i % 32) % 2 := by
  by_cases hlt : i / 32 < l.length
  · have e := val_split l (i / 32) hlt
    have hv := val_lt (hs.take (i / 32))
    rw [List.length_take, Nat.min_eq_left (by omega), pow_eq] at hv
    rw [pow_eq] at e
    have e1 : val l / 2 ^ (32 * (i / 32)) = limb l (i / 32) + 4294967296 * val (l.drop (i / 32 + 1)) := by
      rw [e, Nat.add_mul_div_left _ _ (Nat.two_pow_pos _), Nat.div_eq_of_lt hv, Nat.zero_add]
    have e2 : 2 ^ i = 2 ^ (32 * (i / 32)) * 2 ^ (i % 32) := by rw [← Nat.pow_add]; congr 1; omega
    rw [e2, ← Nat.div_div_eq_div_mul, e1]
    have hr : i % 32 < 32 := Nat.mod_lt _ (by decide)
    generalize i % 32 = r at *
    have e3 : 4294967296 = 2 ^ r * (2 ^ (31 - r) * 2) := by
      rw [← Nat.pow_succ, ← Nat.pow_add, show r + (31 - r).succ = 32 from by omega]
    rw [e3, Nat.mul_assoc, Nat.add_mul_div_left _ _ (Nat.two_pow_pos _), Nat.mul_comm (2 ^ (31 - r)) 2, Nat.mul_assoc, Nat.add_mul_mod_self_left]
  · rw [limb_ge (by omega), Nat.zero_div, Nat.div_eq_of_lt]
    have hv := val_lt hs
    rw [pow_eq] at hv
    exact Nat.lt_of_lt_of_le hv (Nat.pow_le_pow_right (by decide) (by omega))

set_option maxHeartbeats 400000 in
/-- ref01.bit. -/
theorem r1_bit (w : World) (a : Option Addr) (k c n i : Nat) (h : Raw w a k c n) (hi : i < 1000000000000) :
    Calls Tryz.prog 217 #[.slice a k c, .int .i64 (i : Nat)] w fun e w' => e = .returned (.int .u32 ((n / 2 ^ i % 2 : Nat))) ∧ w' = w := by
  obtain ⟨l, rfl, rfl, hA⟩ := h
  have h1 := hA.le
  have h2 := hA.short
  by_cases hlt : i / 32 < l.length
  · obtain ⟨p, o, rfl⟩ := hA.at (by omega)
    have hc := hA.cellAt (i / 32) hlt
    have hx := limb_lt hA.small (i / 32)
    have HB := Lib.hid (bit_limb hA.small i)
    have hq : limb l (i / 32) / 2 ^ (i % 32) < 4294967296 := Nat.lt_of_le_of_lt (Nat.div_le_self _ _) hx
    have HQ := Lib.hid hq; clear hq
    go_enter Tryz.func217, Tryz.ntmps217
    go_wp2
    go_ret
    refine ⟨?_, rfl⟩
    have e := u32_and_one _ HQ.out
    rw [HB.out]
    refine ret_int ?_
    rw [← e]; simp
  · have HB := Lib.hid (bit_limb hA.small i)
    have HZ := Lib.hid (limb_ge (l := l) (i := i / 32) (by omega))
    go_enter Tryz.func217, Tryz.ntmps217
    go_wp2
    go_ret
    refine ⟨?_, rfl⟩
    rw [HB.out, HZ.out, Nat.zero_div]; rfl
end Go.Proofs.YtgihpfkjpfanmaaGreat
