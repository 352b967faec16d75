/-
  No cell of these rows narrows 'for every input' (looked for: loops, veiled, ifaces, maps, wideKeys, modest, calm, conditions, laid).
  DERIVED. THE GIVEN ROWS OF THIS SEAT. 3 by the template 'for every input the law returns true; each argument reads behind the call as it read before'; 0 by the template 'total and deterministic' (their statements: YtokklojkcoeooaaTotals.lean).
  GIVEN WITH THE SEED: the statements are not yours to turn. If you find one false, say at which input.
  Laid BY PROGRAM, IN A SANDBOX (cutbox-rows.mjs): the forced cells as the released guide's own fill.sh prints them over the translation e91a247b8e785d23… (all of the seat's roots in one cut). By AI agents, Wed Nov 11 2026. No macro, syntax, notation, axiom, sorry.
-/
import Derived.Test.YtokklojkcoeooaaChecked
import GoSem.Claim
import GoSem.ClaimJoined
import GoSem.ClaimMapViews
import Derived.JoinedTies
import Derived.KernelRfl
namespace Go.Proofs.Ytokklojkcoeooaa
/- THE CELL 'sum', in the pinned program and in every row, IS THE sha256 OF THE DUMP (.gsa) THAT YtokklojkcoeooaaProg.lean LOADS. Nothing in Lean hashes anything: it is a label: what it is worth is what the hold of that sum in a sandbox is worth. -/
noncomputable def Try.pinned : Pinned := { name := "ytokklojkcoeooaa", sum := "e91a247b8e785d239e356703ffea25e8fda40a74da4c6d80094028e428cc8c80", checked := Try.checked }
namespace Rows
def none {H : Type} : Left H := { results := [], args := [] }

/-- 'laws.FnExactCutSave': WHATEVER THE INPUT: true; the input reads as it did. -/
def fnExactCutSaveSpec : ChangeSpec := { name := "fnExactCutSave", fn := fun _ => fun
  | [d1, d2, d3] => { results := [.lit (.bool true)], args := [d1, d2, d3] }
  | _ => none }
def fnExactCutSaveRow : OpenClaim := { program := "ytokklojkcoeooaa", sum := "e91a247b8e785d239e356703ffea25e8fda40a74da4c6d80094028e428cc8c80", func := "loop.example/g03414/laws.FnExactCutSave", spec := "fnExactCutSave", apart := false }
def FnExactCutSaveSaid : Prop := fnExactCutSaveRow.holds Try.pinned (OpenSpec.ofChange fnExactCutSaveSpec)

/-- ITS FALSE NEIGHBOUR: 'it returns false'. Refute it at one input. -/
def fnExactCutSaveWrong : ChangeSpec := { name := "fnExactCutSave", fn := fun _ => fun
  | [d1, d2, d3] => { results := [.lit (.bool false)], args := [d1, d2, d3] }
  | _ => none }
def FnExactCutSaveWrongFalsely : Prop := fnExactCutSaveRow.holds Try.pinned (OpenSpec.ofChange fnExactCutSaveWrong)

/-- 'laws.FnExactSaveTiming': WHATEVER THE INPUT: true; the input reads as it did. -/
def fnExactSaveTimingSpec : ChangeSpec := { name := "fnExactSaveTiming", fn := fun _ => fun
  | [d1, d2] => { results := [.lit (.bool true)], args := [d1, d2] }
  | _ => none }
def fnExactSaveTimingRow : OpenClaim := { program := "ytokklojkcoeooaa", sum := "e91a247b8e785d239e356703ffea25e8fda40a74da4c6d80094028e428cc8c80", func := "loop.example/g03414/laws.FnExactSaveTiming", spec := "fnExactSaveTiming", apart := false }
def FnExactSaveTimingSaid : Prop := fnExactSaveTimingRow.holds Try.pinned (OpenSpec.ofChange fnExactSaveTimingSpec)

/-- ITS FALSE NEIGHBOUR: 'it returns false'. Refute it at one input. -/
def fnExactSaveTimingWrong : ChangeSpec := { name := "fnExactSaveTiming", fn := fun _ => fun
  | [d1, d2] => { results := [.lit (.bool false)], args := [d1, d2] }
  | _ => none }
def FnExactSaveTimingWrongFalsely : Prop := fnExactSaveTimingRow.holds Try.pinned (OpenSpec.ofChange fnExactSaveTimingWrong)

/-- 'laws.FnExactSaveOps': WHATEVER THE INPUT: true; the input reads as it did. -/
def fnExactSaveOpsSpec : ChangeSpec := { name := "fnExactSaveOps", fn := fun _ => fun
  | [d1, d2] => { results := [.lit (.bool true)], args := [d1, d2] }
  | _ => none }
def fnExactSaveOpsRow : OpenClaim := { program := "ytokklojkcoeooaa", sum := "e91a247b8e785d239e356703ffea25e8fda40a74da4c6d80094028e428cc8c80", func := "loop.example/g03414/laws.FnExactSaveOps", spec := "fnExactSaveOps", apart := false }
def FnExactSaveOpsSaid : Prop := fnExactSaveOpsRow.holds Try.pinned (OpenSpec.ofChange fnExactSaveOpsSpec)

/-- ITS FALSE NEIGHBOUR: 'it returns false'. Refute it at one input. -/
def fnExactSaveOpsWrong : ChangeSpec := { name := "fnExactSaveOps", fn := fun _ => fun
  | [d1, d2] => { results := [.lit (.bool false)], args := [d1, d2] }
  | _ => none }
def FnExactSaveOpsWrongFalsely : Prop := fnExactSaveOpsRow.holds Try.pinned (OpenSpec.ofChange fnExactSaveOpsWrong)

/- THE SECOND FORM. 'bulk': how many values and letters a reading holds, each counted each time it is reached (what is shared counts as often as it is met; a slice's spare places count too). A statement '..UptoSaid' is the law's where the arguments, and the package variables that the reading takes, are together of bulk at most 1048576: NARROWER than '..Said'. Prove '..Said' where nothing that the law and all that it calls make is longer than what came in: it says more and counts as full. Else prove '..UptoSaid'. A law counts once. -/
mutual
def uptoBulk {H : Type} : DataW H → Nat
  | .lit (.string bytes) => bytes.length + 1
  | .lit _ => 1
  | .nil => 1
  | .ptr d => uptoBulk d + 1
  | .slice elems spare => uptoBulkAll elems + uptoBulkAll spare + 1
  | .agg parts => uptoBulkAll parts + 1
  | .iface _ d => uptoBulk d + 1
  | .map entries => uptoBulkEntries entries + 1
  | .held _ => 1
def uptoBulkAll {H : Type} : List (DataW H) → Nat
  | [] => 0
  | d :: r => uptoBulk d + uptoBulkAll r
def uptoBulkEntries {H : Type} : List (Lit × DataW H) → Nat
  | [] => 0
  | x :: r => uptoBulkEntry x + uptoBulkEntries r
def uptoBulkEntry {H : Type} : Lit × DataW H → Nat
  | (.string bytes, d) => bytes.length + uptoBulk d + 1
  | (_, d) => uptoBulk d + 1
 end
def uptoSmall : (H : Type) → List (DataW H) → Bool := fun _ ds => decide (uptoBulkAll ds ≤ 1048576)
def OpenSpec.upto (s : _root_.Go.ChangeSpec) : _root_.Go.OpenSpec := { _root_.Go.OpenSpec.ofChange s with cond := some uptoSmall }

/-- 'laws.FnExactCutSave', WHERE WHAT IT READS IS OF BULK AT MOST 1048576: true; the input reads as it did. -/
def fnExactCutSaveUptoRow : OpenClaim := { program := "ytokklojkcoeooaa", sum := "e91a247b8e785d239e356703ffea25e8fda40a74da4c6d80094028e428cc8c80", func := "loop.example/g03414/laws.FnExactCutSave", spec := "fnExactCutSave", apart := false, narrowed := true }
def FnExactCutSaveUptoSaid : Prop := fnExactCutSaveUptoRow.holds Try.pinned (OpenSpec.upto fnExactCutSaveSpec)

/-- 'laws.FnExactSaveTiming', WHERE WHAT IT READS IS OF BULK AT MOST 1048576: true; the input reads as it did. -/
def fnExactSaveTimingUptoRow : OpenClaim := { program := "ytokklojkcoeooaa", sum := "e91a247b8e785d239e356703ffea25e8fda40a74da4c6d80094028e428cc8c80", func := "loop.example/g03414/laws.FnExactSaveTiming", spec := "fnExactSaveTiming", apart := false, narrowed := true }
def FnExactSaveTimingUptoSaid : Prop := fnExactSaveTimingUptoRow.holds Try.pinned (OpenSpec.upto fnExactSaveTimingSpec)

/-- 'laws.FnExactSaveOps', WHERE WHAT IT READS IS OF BULK AT MOST 1048576: true; the input reads as it did. -/
def fnExactSaveOpsUptoRow : OpenClaim := { program := "ytokklojkcoeooaa", sum := "e91a247b8e785d239e356703ffea25e8fda40a74da4c6d80094028e428cc8c80", func := "loop.example/g03414/laws.FnExactSaveOps", spec := "fnExactSaveOps", apart := false, narrowed := true }
def FnExactSaveOpsUptoSaid : Prop := fnExactSaveOpsUptoRow.holds Try.pinned (OpenSpec.upto fnExactSaveOpsSpec)

end Rows
end Go.Proofs.Ytokklojkcoeooaa
