/- Texts of the proof. -/
import Derived.Test.YtkpngkdgphojlaaGreatCc25
set_option linter.all false
namespace Go.Proofs.YtkpngkdgphojlaaGreat
open Go.ChangeShapes Go.WideShapes Go.ChangeAt Go.RowKit
theorem Tryz.laidOut:laidOutB Tryz.prog=true:=by kernel_rfl
def lV (k:IntKind) (w:World) (a:Option Addr) (len cap:Nat) (zs:List Int):Prop:=
 (a=none∧len=0∧cap=0∧zs= [])∨
 ∃x,a=some x∧len≤cap∧cap≤maxLen∧zs.length=cap∧(∀i,i<zs.length→w.cell? (x.add i)=some (.int k (zs.getD i 0)))∧ ∀n∈zs,(Lit.int k n).wf=true
theorem wf_i64 {n:Int} (h:(Lit.int .i64 n).wf=true): -9223372036854775808≤n∧n<9223372036854775808:=by
 simp [Lit.wf,IntKind.min,IntKind.max,IntKind.signed,IntKind.bits]at h;omega
theorem lV.zZ {w:World} {a:Option Addr} {len cap:Nat} {zs:List Int} (h:lV .i64 w a len cap zs):(zs.take len).length=len∧aA w a cap (zs.take len):=by
 rcases h with⟨rfl,rfl,rfl,rfl⟩|⟨x,rfl,h1,h2,h3,h4,h5⟩
 ·exact ⟨rfl,⟨Nat.le_refl _,by omega,fun i hi=>absurd hi (Nat.not_lt_zero _),fun i hi=>absurd hi (Nat.not_lt_zero _)⟩⟩
 ·have hl:(zs.take len).length=len:=by rw [List.length_take];omega
  refine ⟨hl,⟨by omega,by unfold maxLen at h2;omega,fun i hi=> ?_,fun i hi=> ?_⟩⟩
  ·have hc:=h4 i (by omega)
   obtain ⟨b,off,spot⟩:=x;have hspot:spot=none:=by simpa [Addr.add]using World.cell?_spot (h4 0 (by omega))
   subst hspot;refine ⟨b,off,rfl,?_⟩;rw [show(Addr.add ⟨b,off,none⟩ i)=⟨b,off+i,none⟩from by unfold Addr.add;split<;>simp_all]at hc;rw [hc,List.getElem_take];have hi':i<zs.length:=by omega
   simp [hi']
  ·rw [List.getElem_take]
   exact wf_i64 (h5 _ (List.getElem_mem _))
end Go.Proofs.YtkpngkdgphojlaaGreat
