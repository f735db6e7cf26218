/- Texts of the proof. -/
import Derived.Test.YtfokdakioeoniaaGreatProg
import Derived.Lib.Strings
import Derived.Lib.Slices
import Derived.Lib.Small
import Derived.Lib.Walk
import Derived.Lib.BitFns
set_option linter.all false
set_option maxHeartbeats 4000000
set_option maxRecDepth 100000
namespace Go.Proofs.YtfokdakioeoniaaGreat
open Go.Proofs.Tryz
theorem bits_Len32 (x:Int) (w:World) (h0:0<=x) (h1:x<=4294967295):
 Calls prog 237 #[.int .u32 x] w λe w'=>e= .returned (.int .i64 (Lib.bitLen x.toNat))/\w'=w:=by
 go_enter func237,ntmps237
 go_wp2
 all_goals (go_ret;refine ⟨congrArg Ending.returned (congrArg (Value.int IntKind.i64) ?_),rfl⟩)
 all_goals first
  |(rw [Lib.len8_of (x/65536/256 % 256) (by omega) (by omega)]
    have e:(x/65536/256 % 256).toNat=x.toNat/16777216:=by omega
    have l:=Lib.bitLen_le8' (x/65536/256 % 256) (by omega) (by omega);have s:=Lib.bitLen_shift24 x.toNat (by omega) (by omega);rw [e]at l⊢;omega)
  |(rw [Lib.len8_of (x/65536 % 256) (by omega) (by omega)]
    have e:(x/65536 % 256).toNat=x.toNat/65536:=by omega
    have l:=Lib.bitLen_le8' (x/65536 % 256) (by omega) (by omega);have s:=Lib.bitLen_shift16 x.toNat (by omega) (by omega);rw [e]at l⊢;omega)
  |(rw [Lib.len8_of (x/256 % 256) (by omega) (by omega)]
    have e:(x/256 % 256).toNat=x.toNat/256:=by omega
    have l:=Lib.bitLen_le8' (x/256 % 256) (by omega) (by omega);have s:=Lib.bitLen_shift8 x.toNat (by omega) (by omega);rw [e]at l⊢;omega)
  |(rw [Lib.len8_of (x % 256) (by omega) (by omega)]
    have e:(x % 256).toNat=x.toNat:=by omega
    have l:=Lib.bitLen_le8' (x % 256) (by omega) (by omega);rw [e]at l⊢;omega)
