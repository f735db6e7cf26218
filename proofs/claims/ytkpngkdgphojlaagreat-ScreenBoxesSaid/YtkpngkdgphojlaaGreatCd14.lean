/- Texts of the proof. -/
import Derived.Test.YtkpngkdgphojlaaGreatCd8
import Derived.Test.YtkpngkdgphojlaaGreatCd13
set_option linter.all false
namespace Go.Proofs.YtkpngkdgphojlaaGreat
open Go.Proofs.Tryz
open Go.RowKit
def dH (l:List Int):List (List Value):=l.map fun z=> [i64 z]
theorem pS (l:List Int) (z:Int):dH (l++ [z])=dH l++ [[i64 z]]:=by simp [dH]
theorem eM (l:List Int):(dH l).length=l.length:=by simp [dH]
theorem bS.but {w w':World} {m:Nat} {a:Option Addr} {c K:Nat} {rows:List (List Value)} (h:bS w m a c rows) (x:ar K w w') (hb: ∀p,a=some p→p.block≠K):bS w' m a c rows:=
 ⟨h.le,h.cap,fun i hi=>by
   obtain ⟨b,o,ha,hc⟩:=h.cell i hi;exact ⟨b,o,ha,fun j hj=>bL (hc j hj) x (show b≠K from hb _ ha)⟩⟩
theorem aD.nil (w:World):aD w none 0 []:=⟨Nat.le_refl _,by decide,fun i hi=>absurd hi (Nat.not_lt_zero _),fun i hi=>absurd hi (Nat.not_lt_zero _)⟩
end Go.Proofs.YtkpngkdgphojlaaGreat
