/- Texts of the proof: Base2. -/
import Derived.KernelRfl
import Derived.WalkKit
import Derived.WalkSpells
import Derived.Sort.Grow
import Derived.Lib.Hide
import Derived.Laws.CopyOwn
import Derived.Laws.BitsAllLaws
import Derived.Deep.QuietTactic
import Derived.BigQuiet
import Derived.Test.YtgihpfkjpfanmaaGreatRows
import Derived.WalkLawsBesides
import Derived.Deep.RegionWith
import Derived.Deep.RegionHeld3
import Derived.Test.YtgihpfkjpfanmaaGreatQi1
namespace Go.Proofs.YtgihpfkjpfanmaaGreat
open Go.RowKit

/-- w3 is w2 but for what lies in the blocks from lo to hi. -/
structure Touch (lo hi : Nat) (w2 w3 : World) : Prop where
  os : w3.os = w2.os
  tape : w3.tape = w2.tape
  output : w3.output = w2.output
  drawn : w2.drawn ≤ w3.drawn
  size : w3.heap.size = w2.heap.size
  block : ∀ k, k < lo ∨ hi ≤ k → w3.heap[k]? = w2.heap[k]?

theorem Touch.refl (lo hi : Nat) (w : World) : Touch lo hi w w := ⟨rfl, rfl, rfl, Nat.le_refl _, rfl, fun _ _ => rfl⟩
theorem Touch.setCell {lo hi : Nat} {a w : World} (h : Touch lo hi a w) {p : Addr} (h1 : lo ≤ p.block) (h2 : p.block < hi) (v : Value) : Touch lo hi a (w.setCell p v) :=
  ⟨h.os, h.tape, h.output, h.drawn, by rw [← h.size]; simp [World.setCell], fun k hk => by rw [Below.heap_setCell _ _ _ _ (by omega)]; exact h.block k hk⟩
theorem Touch.drew {lo hi : Nat} {a w : World} (h : Touch lo hi a w) : Touch lo hi a w.drew := ⟨h.os, h.tape, h.output, Nat.le_succ_of_le h.drawn, h.size, h.block⟩
theorem Touch.drewN {lo hi : Nat} {a w : World} (h : Touch lo hi a w) (n : Nat) : Touch lo hi a (w.drewN n) := ⟨h.os, h.tape, h.output, Nat.le_trans h.drawn (Nat.le_add_right _ _), h.size, h.block⟩

theorem Ext.touch {w W w2 w3 : World} (hW : Ext w W) (h : Ext W w2) (t : Touch w.heap.size W.heap.size w2 w3) : Ext w w3 := by
  have h2 := hW.trans h
  exact ⟨⟨t.os.trans h2.below.os, t.tape.trans h2.below.tape, t.output.trans h2.below.output, by rw [t.size]; exact h2.below.size, fun k hk => (t.block k (Or.inl hk)).trans (h2.below.block k hk)⟩, Nat.le_trans h2.drawn t.drawn⟩

theorem cell_touch {lo hi : Nat} {w2 w3 : World} (t : Touch lo hi w2 w3) {p : Addr} (hp : p.block < lo ∨ hi ≤ p.block) : w3.cell? p = w2.cell? p := by
  unfold World.cell?; rw [t.block _ hp]

theorem Limbs.touch {lo hi : Nat} {w2 w3 : World} {a : Option Addr} {c : Nat} {l : List Nat} (h : Limbs w2 a c l) (t : Touch lo hi w2 w3) (ha : ∀ x, a = some x → x.block < lo ∨ hi ≤ x.block) : Limbs w3 a c l :=
  ⟨h.le, h.cap, h.short, h.nul, h.small, fun i hi => by
    obtain ⟨b, o, ha', hc⟩ := h.cell i hi
    exact ⟨b, o, ha', by rw [cell_touch t (p := ⟨b, o + i, none⟩) (ha ⟨b, o, none⟩ ha')]; exact hc⟩⟩
theorem Raw.touch {lo hi : Nat} {w2 w3 : World} {a : Option Addr} {k c n : Nat} (h : Raw w2 a k c n) (t : Touch lo hi w2 w3) (ha : ∀ x, a = some x → x.block < lo ∨ hi ≤ x.block) : Raw w3 a k c n := by
  obtain ⟨l, h1, h2, h3⟩ := h; exact ⟨l, h1, h2, h3.touch t ha⟩
theorem Fr.out {lo hi : Nat} {a : Option Addr} (h : Fr hi a) : ∀ x, a = Option.some x → x.block < lo ∨ hi ≤ x.block := fun x e => Or.inr (h x e)

end Go.Proofs.YtgihpfkjpfanmaaGreat
