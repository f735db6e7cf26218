/-
  No cell of these rows narrows 'for every input' (looked for: loops, veiled, ifaces, maps, wideKeys, modest, calm, conditions, laid).
  DERIVED. THE GIVEN ROWS OF THIS SEAT. 2 by the template 'for every input the law returns true; each argument reads behind the call as it read before'; 0 by the template 'total and deterministic' (their statements: YtbnamicbjaaelaaGreatTotals.lean).
  GIVEN WITH THE SEED: the statements are not yours to turn. If you find one false, say at which input.
  Laid BY PROGRAM, IN A SANDBOX (cutbox-rows.mjs): the forced cells as the released guide's own fill.sh prints them over the translation 968e96bcbc8436e5… (all of the seat's roots in one cut). By AI agents, Wed Nov 11 2026. No macro, syntax, notation, axiom, sorry.
-/
import Derived.Test.YtbnamicbjaaelaaGreatChecked
import GoSem.Claim
import GoSem.ClaimJoined
import GoSem.ClaimMapViews
import Derived.JoinedTies
import Derived.KernelRfl
namespace Go.Proofs.YtbnamicbjaaelaaGreat
/- THE CELL 'sum', in the pinned program and in every row, IS THE sha256 OF THE DUMP (.gsa) THAT YtbnamicbjaaelaaGreatProg.lean LOADS. Nothing in Lean hashes anything: it is a label: what it is worth is what the hold of that sum in a sandbox is worth. -/
noncomputable def Tryz.pinned : Pinned := { name := "ytbnamicbjaaelaagreat", sum := "968e96bcbc8436e546dfa432b82ba9110db668383525fcd876839d2dba66d32b", checked := Tryz.checked }
namespace Rows
def none {H : Type} : Left H := { results := [], args := [] }

/-- 'gridmarketlaw33.CutsValid': WHATEVER THE INPUT: true; the input reads as it did. -/
def cutsValidSpec : ChangeSpec := { name := "cutsValid", fn := fun _ => fun
  | [d1, d2, d3, d4, d5, d6, d7] => { results := [.lit (.bool true)], args := [d1, d2, d3, d4, d5, d6, d7] }
  | _ => none }
def cutsValidRow : OpenClaim := { program := "ytbnamicbjaaelaagreat", sum := "968e96bcbc8436e546dfa432b82ba9110db668383525fcd876839d2dba66d32b", func := "gridmarket/gridmarketlaw33.CutsValid", spec := "cutsValid", unfollowed := true, recurses := true, apart := false }
def CutsValidSaid : Prop := cutsValidRow.holds Tryz.pinned (OpenSpec.ofChange cutsValidSpec)

/-- ITS FALSE NEIGHBOUR: 'it returns false'. Refute it at one input. -/
def cutsValidWrong : ChangeSpec := { name := "cutsValid", fn := fun _ => fun
  | [d1, d2, d3, d4, d5, d6, d7] => { results := [.lit (.bool false)], args := [d1, d2, d3, d4, d5, d6, d7] }
  | _ => none }
def CutsValidWrongFalsely : Prop := cutsValidRow.holds Tryz.pinned (OpenSpec.ofChange cutsValidWrong)

/-- 'gridmarketlaw33.CutsSeparate': WHATEVER THE INPUT: true; the input reads as it did. -/
def cutsSeparateSpec : ChangeSpec := { name := "cutsSeparate", fn := fun _ => fun
  | [d1, d2, d3, d4, d5] => { results := [.lit (.bool true)], args := [d1, d2, d3, d4, d5] }
  | _ => none }
def cutsSeparateRow : OpenClaim := { program := "ytbnamicbjaaelaagreat", sum := "968e96bcbc8436e546dfa432b82ba9110db668383525fcd876839d2dba66d32b", func := "gridmarket/gridmarketlaw33.CutsSeparate", spec := "cutsSeparate", unfollowed := true, recurses := true, apart := false }
def CutsSeparateSaid : Prop := cutsSeparateRow.holds Tryz.pinned (OpenSpec.ofChange cutsSeparateSpec)

/-- ITS FALSE NEIGHBOUR: 'it returns false'. Refute it at one input. -/
def cutsSeparateWrong : ChangeSpec := { name := "cutsSeparate", fn := fun _ => fun
  | [d1, d2, d3, d4, d5] => { results := [.lit (.bool false)], args := [d1, d2, d3, d4, d5] }
  | _ => none }
def CutsSeparateWrongFalsely : Prop := cutsSeparateRow.holds Tryz.pinned (OpenSpec.ofChange cutsSeparateWrong)

/- THE SECOND FORM. 'bulk': how many values and letters a reading holds, each counted each time it is reached (what is shared counts as often as it is met; a slice's spare places count too). A statement '..UptoSaid' is the law's where the arguments, and the package variables that the reading takes, are together of bulk at most 1048576: NARROWER than '..Said'. Prove '..Said' where nothing that the law and all that it calls make is longer than what came in: it says more and counts as full. Else prove '..UptoSaid'. A law counts once. -/
mutual
def uptoBulk {H : Type} : DataW H → Nat
  | .lit (.string bytes) => bytes.length + 1
  | .lit _ => 1
  | .nil => 1
  | .ptr d => uptoBulk d + 1
  | .slice elems spare => uptoBulkAll elems + uptoBulkAll spare + 1
  | .agg parts => uptoBulkAll parts + 1
  | .iface _ d => uptoBulk d + 1
  | .map entries => uptoBulkEntries entries + 1
  | .held _ => 1
def uptoBulkAll {H : Type} : List (DataW H) → Nat
  | [] => 0
  | d :: r => uptoBulk d + uptoBulkAll r
def uptoBulkEntries {H : Type} : List (Lit × DataW H) → Nat
  | [] => 0
  | x :: r => uptoBulkEntry x + uptoBulkEntries r
def uptoBulkEntry {H : Type} : Lit × DataW H → Nat
  | (.string bytes, d) => bytes.length + uptoBulk d + 1
  | (_, d) => uptoBulk d + 1
 end
def uptoSmall : (H : Type) → List (DataW H) → Bool := fun _ ds => decide (uptoBulkAll ds ≤ 1048576)
def OpenSpec.upto (s : _root_.Go.ChangeSpec) : _root_.Go.OpenSpec := { _root_.Go.OpenSpec.ofChange s with cond := some uptoSmall }

/-- 'gridmarketlaw33.CutsValid', WHERE WHAT IT READS IS OF BULK AT MOST 1048576: true; the input reads as it did. -/
def cutsValidUptoRow : OpenClaim := { program := "ytbnamicbjaaelaagreat", sum := "968e96bcbc8436e546dfa432b82ba9110db668383525fcd876839d2dba66d32b", func := "gridmarket/gridmarketlaw33.CutsValid", spec := "cutsValid", unfollowed := true, recurses := true, apart := false, narrowed := true }
def CutsValidUptoSaid : Prop := cutsValidUptoRow.holds Tryz.pinned (OpenSpec.upto cutsValidSpec)

/-- 'gridmarketlaw33.CutsSeparate', WHERE WHAT IT READS IS OF BULK AT MOST 1048576: true; the input reads as it did. -/
def cutsSeparateUptoRow : OpenClaim := { program := "ytbnamicbjaaelaagreat", sum := "968e96bcbc8436e546dfa432b82ba9110db668383525fcd876839d2dba66d32b", func := "gridmarket/gridmarketlaw33.CutsSeparate", spec := "cutsSeparate", unfollowed := true, recurses := true, apart := false, narrowed := true }
def CutsSeparateUptoSaid : Prop := cutsSeparateUptoRow.holds Tryz.pinned (OpenSpec.upto cutsSeparateSpec)

end Rows
end Go.Proofs.YtbnamicbjaaelaaGreat
