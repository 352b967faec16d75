/-
  No cell of these rows narrows 'for every input' (looked for: loops, veiled, ifaces, maps, wideKeys, modest, calm, conditions, laid).
  DERIVED. THE GIVEN ROWS OF THIS SEAT. 3 by the template 'for every input the law returns true; each argument reads behind the call as it read before'; 0 by the template 'total and deterministic' (their statements: YtkddlfhcedaggaaTotals.lean).
  GIVEN WITH THE SEED: the statements are not yours to turn. If you find one false, say at which input.
  Laid BY PROGRAM, IN A SANDBOX (cutbox-rows.mjs): the forced cells as the released guide's own fill.sh prints them over the translation 31e9f921e3e39c7c… (all of the seat's roots in one cut). By AI agents, Wed Nov 11 2026. No macro, syntax, notation, axiom, sorry.
-/
import Derived.Test.YtkddlfhcedaggaaChecked
import GoSem.Claim
import GoSem.ClaimJoined
import GoSem.ClaimMapViews
import Derived.JoinedTies
import Derived.KernelRfl
namespace Go.Proofs.Ytkddlfhcedaggaa
/- THE CELL 'sum', in the pinned program and in every row, IS THE sha256 OF THE DUMP (.gsa) THAT YtkddlfhcedaggaaProg.lean LOADS. Nothing in Lean hashes anything: it is a label: what it is worth is what the hold of that sum in a sandbox is worth. -/
noncomputable def Try.pinned : Pinned := { name := "ytkddlfhcedaggaa", sum := "31e9f921e3e39c7c92c3458d3375b420fc017a849a6c82ba994a88b7b77b1103", checked := Try.checked }
namespace Rows
def none {H : Type} : Left H := { results := [], args := [] }

/-- 'laws.FnPruned': WHATEVER THE INPUT: true; the input reads as it did. -/
def fnPrunedSpec : ChangeSpec := { name := "fnPruned", fn := fun _ => fun
  | [d] => { results := [.lit (.bool true)], args := [d] }
  | _ => none }
def fnPrunedRow : OpenClaim := { program := "ytkddlfhcedaggaa", sum := "31e9f921e3e39c7c92c3458d3375b420fc017a849a6c82ba994a88b7b77b1103", func := "loop.example/g03414/laws.FnPruned", spec := "fnPruned", recurses := true, apart := false }
def FnPrunedSaid : Prop := fnPrunedRow.holds Try.pinned (OpenSpec.ofChange fnPrunedSpec)

/-- ITS FALSE NEIGHBOUR: 'it returns false'. Refute it at one input. -/
def fnPrunedWrong : ChangeSpec := { name := "fnPruned", fn := fun _ => fun
  | [d] => { results := [.lit (.bool false)], args := [d] }
  | _ => none }
def FnPrunedWrongFalsely : Prop := fnPrunedRow.holds Try.pinned (OpenSpec.ofChange fnPrunedWrong)

/-- 'laws.FnHolds': WHATEVER THE INPUT: true; the input reads as it did. -/
def fnHoldsSpec : ChangeSpec := { name := "fnHolds", fn := fun _ => fun
  | [d] => { results := [.lit (.bool true)], args := [d] }
  | _ => none }
def fnHoldsRow : OpenClaim := { program := "ytkddlfhcedaggaa", sum := "31e9f921e3e39c7c92c3458d3375b420fc017a849a6c82ba994a88b7b77b1103", func := "loop.example/g03414/laws.FnHolds", spec := "fnHolds", recurses := true, apart := false }
def FnHoldsSaid : Prop := fnHoldsRow.holds Try.pinned (OpenSpec.ofChange fnHoldsSpec)

/-- ITS FALSE NEIGHBOUR: 'it returns false'. Refute it at one input. -/
def fnHoldsWrong : ChangeSpec := { name := "fnHolds", fn := fun _ => fun
  | [d] => { results := [.lit (.bool false)], args := [d] }
  | _ => none }
def FnHoldsWrongFalsely : Prop := fnHoldsRow.holds Try.pinned (OpenSpec.ofChange fnHoldsWrong)

/-- 'laws.FnTaps': WHATEVER THE INPUT: true; the input reads as it did. -/
def fnTapsSpec : ChangeSpec := { name := "fnTaps", fn := fun _ => fun
  | [d] => { results := [.lit (.bool true)], args := [d] }
  | _ => none }
def fnTapsRow : OpenClaim := { program := "ytkddlfhcedaggaa", sum := "31e9f921e3e39c7c92c3458d3375b420fc017a849a6c82ba994a88b7b77b1103", func := "loop.example/g03414/laws.FnTaps", spec := "fnTaps", recurses := true, apart := false }
def FnTapsSaid : Prop := fnTapsRow.holds Try.pinned (OpenSpec.ofChange fnTapsSpec)

/-- ITS FALSE NEIGHBOUR: 'it returns false'. Refute it at one input. -/
def fnTapsWrong : ChangeSpec := { name := "fnTaps", fn := fun _ => fun
  | [d] => { results := [.lit (.bool false)], args := [d] }
  | _ => none }
def FnTapsWrongFalsely : Prop := fnTapsRow.holds Try.pinned (OpenSpec.ofChange fnTapsWrong)

/- THE SECOND FORM. 'bulk': how many values and letters a reading holds, each counted each time it is reached (what is shared counts as often as it is met; a slice's spare places count too). A statement '..UptoSaid' is the law's where the arguments, and the package variables that the reading takes, are together of bulk at most 1048576: NARROWER than '..Said'. Prove '..Said' where nothing that the law and all that it calls make is longer than what came in: it says more and counts as full. Else prove '..UptoSaid'. A law counts once. -/
mutual
def uptoBulk {H : Type} : DataW H → Nat
  | .lit (.string bytes) => bytes.length + 1
  | .lit _ => 1
  | .nil => 1
  | .ptr d => uptoBulk d + 1
  | .slice elems spare => uptoBulkAll elems + uptoBulkAll spare + 1
  | .agg parts => uptoBulkAll parts + 1
  | .iface _ d => uptoBulk d + 1
  | .map entries => uptoBulkEntries entries + 1
  | .held _ => 1
def uptoBulkAll {H : Type} : List (DataW H) → Nat
  | [] => 0
  | d :: r => uptoBulk d + uptoBulkAll r
def uptoBulkEntries {H : Type} : List (Lit × DataW H) → Nat
  | [] => 0
  | x :: r => uptoBulkEntry x + uptoBulkEntries r
def uptoBulkEntry {H : Type} : Lit × DataW H → Nat
  | (.string bytes, d) => bytes.length + uptoBulk d + 1
  | (_, d) => uptoBulk d + 1
 end
def uptoSmall : (H : Type) → List (DataW H) → Bool := fun _ ds => decide (uptoBulkAll ds ≤ 1048576)
def OpenSpec.upto (s : _root_.Go.ChangeSpec) : _root_.Go.OpenSpec := { _root_.Go.OpenSpec.ofChange s with cond := some uptoSmall }

/-- 'laws.FnPruned', WHERE WHAT IT READS IS OF BULK AT MOST 1048576: true; the input reads as it did. -/
def fnPrunedUptoRow : OpenClaim := { program := "ytkddlfhcedaggaa", sum := "31e9f921e3e39c7c92c3458d3375b420fc017a849a6c82ba994a88b7b77b1103", func := "loop.example/g03414/laws.FnPruned", spec := "fnPruned", recurses := true, apart := false, narrowed := true }
def FnPrunedUptoSaid : Prop := fnPrunedUptoRow.holds Try.pinned (OpenSpec.upto fnPrunedSpec)

/-- 'laws.FnHolds', WHERE WHAT IT READS IS OF BULK AT MOST 1048576: true; the input reads as it did. -/
def fnHoldsUptoRow : OpenClaim := { program := "ytkddlfhcedaggaa", sum := "31e9f921e3e39c7c92c3458d3375b420fc017a849a6c82ba994a88b7b77b1103", func := "loop.example/g03414/laws.FnHolds", spec := "fnHolds", recurses := true, apart := false, narrowed := true }
def FnHoldsUptoSaid : Prop := fnHoldsUptoRow.holds Try.pinned (OpenSpec.upto fnHoldsSpec)

/-- 'laws.FnTaps', WHERE WHAT IT READS IS OF BULK AT MOST 1048576: true; the input reads as it did. -/
def fnTapsUptoRow : OpenClaim := { program := "ytkddlfhcedaggaa", sum := "31e9f921e3e39c7c92c3458d3375b420fc017a849a6c82ba994a88b7b77b1103", func := "loop.example/g03414/laws.FnTaps", spec := "fnTaps", recurses := true, apart := false, narrowed := true }
def FnTapsUptoSaid : Prop := fnTapsUptoRow.holds Try.pinned (OpenSpec.upto fnTapsSpec)

end Rows
end Go.Proofs.Ytkddlfhcedaggaa
