/- Texts of the proof. -/
import Derived.Test.YtbnamicbjaaelaaGreatCg14
import Derived.Test.YtbnamicbjaaelaaGreatCg19
set_option linter.all false
namespace Go.Proofs.YtbnamicbjaaelaaGreat
open Go.Proofs.Tryz
open Go.RowKit
def dY (l:List Int):List (List Value):=l.map λz=> [i64 z]
theorem kM (l:List Int) (z:Int):dY (l++ [z])=dY l++ [[i64 z]]:=by simp [dY]
theorem cf (l:List Int):(dY l).length=l.length:=by simp [dY]
theorem ct.but {w w':World} {m:Nat} {a:Option Addr} {c K:Nat} {rows:List (List Value)} (h:ct w m a c rows) (x:aB K w w') (hb: ∀p,a=some p->p.block≠K):ct w' m a c rows:=
 ⟨h.le,h.cap,λi hi=>by
   obtain ⟨b,o,ha,hc⟩:=h.cell i hi;exact ⟨b,o,ha,λj hj=>bU (hc j hj) x (show b≠K from hb _ ha)⟩⟩
theorem aS.nil (w:World):aS w none 0 []:=⟨bY,aq,λi hi=>absurd hi (Nat.not_lt_zero _),λi hi=>absurd hi (Nat.not_lt_zero _)⟩
