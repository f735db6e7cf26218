/- Texts of the proof. -/
import Derived.Test.YtbnamicbjaaelaaGreatCg9
set_option linter.all false
namespace Go.Proofs.YtbnamicbjaaelaaGreat
open Go.Proofs.Tryz
open Go.RowKit
theorem y_ (l:List cH) (r:cH):gY (l++ [r])=gY l++r.cells:=by simp [gY]
