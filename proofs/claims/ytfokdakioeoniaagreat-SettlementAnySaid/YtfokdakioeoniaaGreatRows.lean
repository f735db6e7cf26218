/-
  No cell of these rows narrows 'for every input' (looked for: loops, veiled, ifaces, maps, wideKeys, modest, calm, conditions, laid).
  DERIVED. THE GIVEN ROWS OF THIS SEAT. 2 by the template 'for every input the law returns true; each argument reads behind the call as it read before'; 0 by the template 'total and deterministic' (their statements: YtfokdakioeoniaaGreatTotals.lean).
  GIVEN WITH THE SEED: the statements are not yours to turn. If you find one false, say at which input.
  Laid BY PROGRAM, IN A SANDBOX (cutbox-rows.mjs): the forced cells as the released guide's own fill.sh prints them over the translation fada8d14a7f45d87… (all of the seat's roots in one cut). By AI agents, Wed Nov 11 2026. No macro, syntax, notation, axiom, sorry.
-/
import Derived.Test.YtfokdakioeoniaaGreatChecked
import GoSem.Claim
import GoSem.ClaimJoined
import GoSem.ClaimMapViews
import Derived.JoinedTies
import Derived.KernelRfl
namespace Go.Proofs.YtfokdakioeoniaaGreat
/- THE CELL 'sum', in the pinned program and in every row, IS THE sha256 OF THE DUMP (.gsa) THAT YtfokdakioeoniaaGreatProg.lean LOADS. Nothing in Lean hashes anything: it is a label: what it is worth is what the hold of that sum in a sandbox is worth. -/
noncomputable def Tryz.pinned : Pinned := { name := "ytfokdakioeoniaagreat", sum := "fada8d14a7f45d87146059f74328ca722e5c9bced22c713c0274a966946aec91", checked := Tryz.checked }
namespace Rows
def none {H : Type} : Left H := { results := [], args := [] }

/-- 'gridmarketlaw39.PricesAny': WHATEVER THE INPUT: true; the input reads as it did. -/
def pricesAnySpec : ChangeSpec := { name := "pricesAny", fn := fun _ => fun
  | [d1, d2, d3, d4, d5, d6, d7, d8] => { results := [.lit (.bool true)], args := [d1, d2, d3, d4, d5, d6, d7, d8] }
  | _ => none }
def pricesAnyRow : OpenClaim := { program := "ytfokdakioeoniaagreat", sum := "fada8d14a7f45d87146059f74328ca722e5c9bced22c713c0274a966946aec91", func := "gridmarket/gridmarketlaw39.PricesAny", spec := "pricesAny", unfollowed := true, recurses := true, plainKeys := false, apart := false }
def PricesAnySaid : Prop := pricesAnyRow.holds Tryz.pinned (OpenSpec.ofChange pricesAnySpec)

/-- ITS FALSE NEIGHBOUR: 'it returns false'. Refute it at one input. -/
def pricesAnyWrong : ChangeSpec := { name := "pricesAny", fn := fun _ => fun
  | [d1, d2, d3, d4, d5, d6, d7, d8] => { results := [.lit (.bool false)], args := [d1, d2, d3, d4, d5, d6, d7, d8] }
  | _ => none }
def PricesAnyWrongFalsely : Prop := pricesAnyRow.holds Tryz.pinned (OpenSpec.ofChange pricesAnyWrong)

/-- 'gridmarketlaw40.SettlementAny': WHATEVER THE INPUT: true; the input reads as it did. -/
def settlementAnySpec : ChangeSpec := { name := "settlementAny", fn := fun _ => fun
  | [d1, d2, d3, d4] => { results := [.lit (.bool true)], args := [d1, d2, d3, d4] }
  | _ => none }
def settlementAnyRow : OpenClaim := { program := "ytfokdakioeoniaagreat", sum := "fada8d14a7f45d87146059f74328ca722e5c9bced22c713c0274a966946aec91", func := "gridmarket/gridmarketlaw40.SettlementAny", spec := "settlementAny", unfollowed := true, recurses := true, plainKeys := false, apart := false }
def SettlementAnySaid : Prop := settlementAnyRow.holds Tryz.pinned (OpenSpec.ofChange settlementAnySpec)

/-- ITS FALSE NEIGHBOUR: 'it returns false'. Refute it at one input. -/
def settlementAnyWrong : ChangeSpec := { name := "settlementAny", fn := fun _ => fun
  | [d1, d2, d3, d4] => { results := [.lit (.bool false)], args := [d1, d2, d3, d4] }
  | _ => none }
def SettlementAnyWrongFalsely : Prop := settlementAnyRow.holds Tryz.pinned (OpenSpec.ofChange settlementAnyWrong)

/- THE SECOND FORM. 'bulk': how many values and letters a reading holds, each counted each time it is reached (what is shared counts as often as it is met; a slice's spare places count too). A statement '..UptoSaid' is the law's where the arguments, and the package variables that the reading takes, are together of bulk at most 1048576: NARROWER than '..Said'. Prove '..Said' where nothing that the law and all that it calls make is longer than what came in: it says more and counts as full. Else prove '..UptoSaid'. A law counts once. -/
mutual
def uptoBulk {H : Type} : DataW H → Nat
  | .lit (.string bytes) => bytes.length + 1
  | .lit _ => 1
  | .nil => 1
  | .ptr d => uptoBulk d + 1
  | .slice elems spare => uptoBulkAll elems + uptoBulkAll spare + 1
  | .agg parts => uptoBulkAll parts + 1
  | .iface _ d => uptoBulk d + 1
  | .map entries => uptoBulkEntries entries + 1
  | .held _ => 1
def uptoBulkAll {H : Type} : List (DataW H) → Nat
  | [] => 0
  | d :: r => uptoBulk d + uptoBulkAll r
def uptoBulkEntries {H : Type} : List (Lit × DataW H) → Nat
  | [] => 0
  | x :: r => uptoBulkEntry x + uptoBulkEntries r
def uptoBulkEntry {H : Type} : Lit × DataW H → Nat
  | (.string bytes, d) => bytes.length + uptoBulk d + 1
  | (_, d) => uptoBulk d + 1
 end
def uptoSmall : (H : Type) → List (DataW H) → Bool := fun _ ds => decide (uptoBulkAll ds ≤ 1048576)
def OpenSpec.upto (s : _root_.Go.ChangeSpec) : _root_.Go.OpenSpec := { _root_.Go.OpenSpec.ofChange s with cond := some uptoSmall }

/-- 'gridmarketlaw39.PricesAny', WHERE WHAT IT READS IS OF BULK AT MOST 1048576: true; the input reads as it did. -/
def pricesAnyUptoRow : OpenClaim := { program := "ytfokdakioeoniaagreat", sum := "fada8d14a7f45d87146059f74328ca722e5c9bced22c713c0274a966946aec91", func := "gridmarket/gridmarketlaw39.PricesAny", spec := "pricesAny", unfollowed := true, recurses := true, plainKeys := false, apart := false, narrowed := true }
def PricesAnyUptoSaid : Prop := pricesAnyUptoRow.holds Tryz.pinned (OpenSpec.upto pricesAnySpec)

/-- 'gridmarketlaw40.SettlementAny', WHERE WHAT IT READS IS OF BULK AT MOST 1048576: true; the input reads as it did. -/
def settlementAnyUptoRow : OpenClaim := { program := "ytfokdakioeoniaagreat", sum := "fada8d14a7f45d87146059f74328ca722e5c9bced22c713c0274a966946aec91", func := "gridmarket/gridmarketlaw40.SettlementAny", spec := "settlementAny", unfollowed := true, recurses := true, plainKeys := false, apart := false, narrowed := true }
def SettlementAnyUptoSaid : Prop := settlementAnyUptoRow.holds Tryz.pinned (OpenSpec.upto settlementAnySpec)

end Rows
end Go.Proofs.YtfokdakioeoniaaGreat
