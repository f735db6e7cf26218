/- Texts of the proof. -/
import Derived.Test.YtkpngkdgphojlaaGreatCf8
import Derived.Test.YtkpngkdgphojlaaGreatCf9
set_option linter.all false
namespace Go.Proofs.YtkpngkdgphojlaaGreat
open Go.Proofs.Tryz
open Go.RowKit
def fK (l:List Int):List (List Value):=l.map fun z=> [i64 z]
theorem kJ (l:List Int) (z:Int):fK (l++ [z])=fK l++ [[i64 z]]:=by simp [fK]
theorem bM (l:List Int):(fK l).length=l.length:=by simp [fK]
theorem bH.but {w w':World} {m:Nat} {a:Option Addr} {c K:Nat} {rows:List (List Value)} (h:bH w m a c rows) (x:ar K w w') (hb: ∀p,a=some p→p.block≠K):bH w' m a c rows:=
 ⟨h.le,h.cap,fun i hi=>by
   obtain ⟨b,o,ha,hc⟩:=h.cell i hi;exact ⟨b,o,ha,fun j hj=>cK (hc j hj) x (show b≠K from hb _ ha)⟩⟩
theorem aI.nil (w:World):aI w none 0 []:=⟨Nat.le_refl _,by decide,fun i hi=>absurd hi (Nat.not_lt_zero _),fun i hi=>absurd hi (Nat.not_lt_zero _)⟩
end Go.Proofs.YtkpngkdgphojlaaGreat
