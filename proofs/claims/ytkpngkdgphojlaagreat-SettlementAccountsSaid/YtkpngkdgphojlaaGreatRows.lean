/-
  No cell of these rows narrows 'for every input' (looked for: loops, veiled, ifaces, maps, wideKeys, modest, calm, conditions, laid).
  DERIVED. THE GIVEN ROWS OF THIS SEAT. 4 by the template 'for every input the law returns true; each argument reads behind the call as it read before'; 0 by the template 'total and deterministic' (their statements: YtkpngkdgphojlaaGreatTotals.lean).
  GIVEN WITH THE SEED: the statements are not yours to turn. If you find one false, say at which input.
  Laid BY PROGRAM, IN A SANDBOX (cutbox-rows.mjs): the forced cells as the released guide's own fill.sh prints them over the translation 258fa7e275dae953… (all of the seat's roots in one cut). By AI agents, Wed Nov 11 2026. No macro, syntax, notation, axiom, sorry.
-/
import Derived.Test.YtkpngkdgphojlaaGreatChecked
import GoSem.Claim
import GoSem.ClaimJoined
import GoSem.ClaimMapViews
import Derived.JoinedTies
import Derived.KernelRfl
namespace Go.Proofs.YtkpngkdgphojlaaGreat
/- THE CELL 'sum', in the pinned program and in every row, IS THE sha256 OF THE DUMP (.gsa) THAT YtkpngkdgphojlaaGreatProg.lean LOADS. Nothing in Lean hashes anything: it is a label: what it is worth is what the hold of that sum in a sandbox is worth. -/
noncomputable def Tryz.pinned : Pinned := { name := "ytkpngkdgphojlaagreat", sum := "258fa7e275dae9531a1faeb6c781f7d3c786229c6e7b149fa14722d16a58a851", checked := Tryz.checked }
namespace Rows
def none {H : Type} : Left H := { results := [], args := [] }

/-- 'gridmarketlaw33.CutsValid': WHATEVER THE INPUT: true; the input reads as it did. -/
def cutsValidSpec : ChangeSpec := { name := "cutsValid", fn := fun _ => fun
  | [d1, d2, d3, d4, d5, d6, d7] => { results := [.lit (.bool true)], args := [d1, d2, d3, d4, d5, d6, d7] }
  | _ => none }
def cutsValidRow : OpenClaim := { program := "ytkpngkdgphojlaagreat", sum := "258fa7e275dae9531a1faeb6c781f7d3c786229c6e7b149fa14722d16a58a851", func := "gridmarket/gridmarketlaw33.CutsValid", spec := "cutsValid", unfollowed := true, recurses := true, apart := false }
def CutsValidSaid : Prop := cutsValidRow.holds Tryz.pinned (OpenSpec.ofChange cutsValidSpec)

/-- ITS FALSE NEIGHBOUR: 'it returns false'. Refute it at one input. -/
def cutsValidWrong : ChangeSpec := { name := "cutsValid", fn := fun _ => fun
  | [d1, d2, d3, d4, d5, d6, d7] => { results := [.lit (.bool false)], args := [d1, d2, d3, d4, d5, d6, d7] }
  | _ => none }
def CutsValidWrongFalsely : Prop := cutsValidRow.holds Tryz.pinned (OpenSpec.ofChange cutsValidWrong)

/-- 'gridmarketlaw33.CutsGrow': WHATEVER THE INPUT: true; the input reads as it did. -/
def cutsGrowSpec : ChangeSpec := { name := "cutsGrow", fn := fun _ => fun
  | [d1, d2, d3] => { results := [.lit (.bool true)], args := [d1, d2, d3] }
  | _ => none }
def cutsGrowRow : OpenClaim := { program := "ytkpngkdgphojlaagreat", sum := "258fa7e275dae9531a1faeb6c781f7d3c786229c6e7b149fa14722d16a58a851", func := "gridmarket/gridmarketlaw33.CutsGrow", spec := "cutsGrow", unfollowed := true, recurses := true, apart := false }
def CutsGrowSaid : Prop := cutsGrowRow.holds Tryz.pinned (OpenSpec.ofChange cutsGrowSpec)

/-- ITS FALSE NEIGHBOUR: 'it returns false'. Refute it at one input. -/
def cutsGrowWrong : ChangeSpec := { name := "cutsGrow", fn := fun _ => fun
  | [d1, d2, d3] => { results := [.lit (.bool false)], args := [d1, d2, d3] }
  | _ => none }
def CutsGrowWrongFalsely : Prop := cutsGrowRow.holds Tryz.pinned (OpenSpec.ofChange cutsGrowWrong)

/-- 'gridmarketlaw40.SettlementAccounts': WHATEVER THE INPUT: true; the input reads as it did. -/
def settlementAccountsSpec : ChangeSpec := { name := "settlementAccounts", fn := fun _ => fun
  | [d1, d2, d3] => { results := [.lit (.bool true)], args := [d1, d2, d3] }
  | _ => none }
def settlementAccountsRow : OpenClaim := { program := "ytkpngkdgphojlaagreat", sum := "258fa7e275dae9531a1faeb6c781f7d3c786229c6e7b149fa14722d16a58a851", func := "gridmarket/gridmarketlaw40.SettlementAccounts", spec := "settlementAccounts", unfollowed := true, recurses := true, apart := false }
def SettlementAccountsSaid : Prop := settlementAccountsRow.holds Tryz.pinned (OpenSpec.ofChange settlementAccountsSpec)

/-- ITS FALSE NEIGHBOUR: 'it returns false'. Refute it at one input. -/
def settlementAccountsWrong : ChangeSpec := { name := "settlementAccounts", fn := fun _ => fun
  | [d1, d2, d3] => { results := [.lit (.bool false)], args := [d1, d2, d3] }
  | _ => none }
def SettlementAccountsWrongFalsely : Prop := settlementAccountsRow.holds Tryz.pinned (OpenSpec.ofChange settlementAccountsWrong)

/-- 'gridmarketlaw30.ScreenBoxes': WHATEVER THE INPUT: true; the input reads as it did. -/
def screenBoxesSpec : ChangeSpec := { name := "screenBoxes", fn := fun _ => fun
  | [d1, d2, d3, d4, d5, d6, d7] => { results := [.lit (.bool true)], args := [d1, d2, d3, d4, d5, d6, d7] }
  | _ => none }
def screenBoxesRow : OpenClaim := { program := "ytkpngkdgphojlaagreat", sum := "258fa7e275dae9531a1faeb6c781f7d3c786229c6e7b149fa14722d16a58a851", func := "gridmarket/gridmarketlaw30.ScreenBoxes", spec := "screenBoxes", inPlace := ["maps.clone"], unfollowed := true, recurses := true, apart := false }
def ScreenBoxesSaid : Prop := screenBoxesRow.holds Tryz.pinned (OpenSpec.ofChange screenBoxesSpec)

/-- ITS FALSE NEIGHBOUR: 'it returns false'. Refute it at one input. -/
def screenBoxesWrong : ChangeSpec := { name := "screenBoxes", fn := fun _ => fun
  | [d1, d2, d3, d4, d5, d6, d7] => { results := [.lit (.bool false)], args := [d1, d2, d3, d4, d5, d6, d7] }
  | _ => none }
def ScreenBoxesWrongFalsely : Prop := screenBoxesRow.holds Tryz.pinned (OpenSpec.ofChange screenBoxesWrong)

/- THE SECOND FORM. 'bulk': how many values and letters a reading holds, each counted each time it is reached (what is shared counts as often as it is met; a slice's spare places count too). A statement '..UptoSaid' is the law's where the arguments, and the package variables that the reading takes, are together of bulk at most 1048576: NARROWER than '..Said'. Prove '..Said' where nothing that the law and all that it calls make is longer than what came in: it says more and counts as full. Else prove '..UptoSaid'. A law counts once. -/
mutual
def uptoBulk {H : Type} : DataW H → Nat
  | .lit (.string bytes) => bytes.length + 1
  | .lit _ => 1
  | .nil => 1
  | .ptr d => uptoBulk d + 1
  | .slice elems spare => uptoBulkAll elems + uptoBulkAll spare + 1
  | .agg parts => uptoBulkAll parts + 1
  | .iface _ d => uptoBulk d + 1
  | .map entries => uptoBulkEntries entries + 1
  | .held _ => 1
def uptoBulkAll {H : Type} : List (DataW H) → Nat
  | [] => 0
  | d :: r => uptoBulk d + uptoBulkAll r
def uptoBulkEntries {H : Type} : List (Lit × DataW H) → Nat
  | [] => 0
  | x :: r => uptoBulkEntry x + uptoBulkEntries r
def uptoBulkEntry {H : Type} : Lit × DataW H → Nat
  | (.string bytes, d) => bytes.length + uptoBulk d + 1
  | (_, d) => uptoBulk d + 1
 end
def uptoSmall : (H : Type) → List (DataW H) → Bool := fun _ ds => decide (uptoBulkAll ds ≤ 1048576)
def OpenSpec.upto (s : _root_.Go.ChangeSpec) : _root_.Go.OpenSpec := { _root_.Go.OpenSpec.ofChange s with cond := some uptoSmall }

/-- 'gridmarketlaw33.CutsValid', WHERE WHAT IT READS IS OF BULK AT MOST 1048576: true; the input reads as it did. -/
def cutsValidUptoRow : OpenClaim := { program := "ytkpngkdgphojlaagreat", sum := "258fa7e275dae9531a1faeb6c781f7d3c786229c6e7b149fa14722d16a58a851", func := "gridmarket/gridmarketlaw33.CutsValid", spec := "cutsValid", unfollowed := true, recurses := true, apart := false, narrowed := true }
def CutsValidUptoSaid : Prop := cutsValidUptoRow.holds Tryz.pinned (OpenSpec.upto cutsValidSpec)

/-- 'gridmarketlaw33.CutsGrow', WHERE WHAT IT READS IS OF BULK AT MOST 1048576: true; the input reads as it did. -/
def cutsGrowUptoRow : OpenClaim := { program := "ytkpngkdgphojlaagreat", sum := "258fa7e275dae9531a1faeb6c781f7d3c786229c6e7b149fa14722d16a58a851", func := "gridmarket/gridmarketlaw33.CutsGrow", spec := "cutsGrow", unfollowed := true, recurses := true, apart := false, narrowed := true }
def CutsGrowUptoSaid : Prop := cutsGrowUptoRow.holds Tryz.pinned (OpenSpec.upto cutsGrowSpec)

/-- 'gridmarketlaw40.SettlementAccounts', WHERE WHAT IT READS IS OF BULK AT MOST 1048576: true; the input reads as it did. -/
def settlementAccountsUptoRow : OpenClaim := { program := "ytkpngkdgphojlaagreat", sum := "258fa7e275dae9531a1faeb6c781f7d3c786229c6e7b149fa14722d16a58a851", func := "gridmarket/gridmarketlaw40.SettlementAccounts", spec := "settlementAccounts", unfollowed := true, recurses := true, apart := false, narrowed := true }
def SettlementAccountsUptoSaid : Prop := settlementAccountsUptoRow.holds Tryz.pinned (OpenSpec.upto settlementAccountsSpec)

/-- 'gridmarketlaw30.ScreenBoxes', WHERE WHAT IT READS IS OF BULK AT MOST 1048576: true; the input reads as it did. -/
def screenBoxesUptoRow : OpenClaim := { program := "ytkpngkdgphojlaagreat", sum := "258fa7e275dae9531a1faeb6c781f7d3c786229c6e7b149fa14722d16a58a851", func := "gridmarket/gridmarketlaw30.ScreenBoxes", spec := "screenBoxes", inPlace := ["maps.clone"], unfollowed := true, recurses := true, apart := false, narrowed := true }
def ScreenBoxesUptoSaid : Prop := screenBoxesUptoRow.holds Tryz.pinned (OpenSpec.upto screenBoxesSpec)

end Rows
end Go.Proofs.YtkpngkdgphojlaaGreat
