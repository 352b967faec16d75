/-
  No cell of these rows narrows 'for every input' (looked for: loops, veiled, ifaces, maps, wideKeys, modest, calm, conditions, laid).
  DERIVED. THE GIVEN ROWS OF THIS SEAT. 5 by the template 'for every input the law returns true; each argument reads behind the call as it read before'; 0 by the template 'total and deterministic' (their statements: YtoncbegnhhcgmaaGreatTotals.lean).
  GIVEN WITH THE SEED: the statements are not yours to turn. If you find one false, say at which input.
  Laid BY PROGRAM, IN A SANDBOX (cutbox-rows.mjs): the forced cells as the released guide's own fill.sh prints them over the translation 14fbefa0c09e29ee… (all of the seat's roots in one cut). By AI agents, Wed Nov 11 2026. No macro, syntax, notation, axiom, sorry.
-/
import Derived.Test.YtoncbegnhhcgmaaGreatChecked
import GoSem.Claim
import GoSem.ClaimJoined
import GoSem.ClaimMapViews
import Derived.JoinedTies
import Derived.KernelRfl
namespace Go.Proofs.YtoncbegnhhcgmaaGreat
/- THE CELL 'sum', in the pinned program and in every row, IS THE sha256 OF THE DUMP (.gsa) THAT YtoncbegnhhcgmaaGreatProg.lean LOADS. Nothing in Lean hashes anything: it is a label: what it is worth is what the hold of that sum in a sandbox is worth. -/
noncomputable def Tryz.pinned : Pinned := { name := "ytoncbegnhhcgmaagreat", sum := "14fbefa0c09e29eec5c44daa70456d08b68a2a24f5655c59c7e91b975f0666db", checked := Tryz.checked }
namespace Rows
def none {H : Type} : Left H := { results := [], args := [] }

/-- 'laws.FnExactTraceOf': WHATEVER THE INPUT: true; the input reads as it did. -/
def fnExactTraceOfSpec : ChangeSpec := { name := "fnExactTraceOf", fn := fun _ => fun
  | [d1, d2] => { results := [.lit (.bool true)], args := [d1, d2] }
  | _ => none }
def fnExactTraceOfRow : OpenClaim := { program := "ytoncbegnhhcgmaagreat", sum := "14fbefa0c09e29eec5c44daa70456d08b68a2a24f5655c59c7e91b975f0666db", func := "loop.example/g03414/laws.FnExactTraceOf", spec := "fnExactTraceOf", recurses := true, apart := false }
def FnExactTraceOfSaid : Prop := fnExactTraceOfRow.holds Tryz.pinned (OpenSpec.ofChange fnExactTraceOfSpec)

/-- ITS FALSE NEIGHBOUR: 'it returns false'. Refute it at one input. -/
def fnExactTraceOfWrong : ChangeSpec := { name := "fnExactTraceOf", fn := fun _ => fun
  | [d1, d2] => { results := [.lit (.bool false)], args := [d1, d2] }
  | _ => none }
def FnExactTraceOfWrongFalsely : Prop := fnExactTraceOfRow.holds Tryz.pinned (OpenSpec.ofChange fnExactTraceOfWrong)

/-- 'laws.FnExactBoardTick': WHATEVER THE INPUT: true; the input reads as it did. -/
def fnExactBoardTickSpec : ChangeSpec := { name := "fnExactBoardTick", fn := fun _ => fun
  | [d1, d2] => { results := [.lit (.bool true)], args := [d1, d2] }
  | _ => none }
def fnExactBoardTickRow : OpenClaim := { program := "ytoncbegnhhcgmaagreat", sum := "14fbefa0c09e29eec5c44daa70456d08b68a2a24f5655c59c7e91b975f0666db", func := "loop.example/g03414/laws.FnExactBoardTick", spec := "fnExactBoardTick", recurses := true, apart := false }
def FnExactBoardTickSaid : Prop := fnExactBoardTickRow.holds Tryz.pinned (OpenSpec.ofChange fnExactBoardTickSpec)

/-- ITS FALSE NEIGHBOUR: 'it returns false'. Refute it at one input. -/
def fnExactBoardTickWrong : ChangeSpec := { name := "fnExactBoardTick", fn := fun _ => fun
  | [d1, d2] => { results := [.lit (.bool false)], args := [d1, d2] }
  | _ => none }
def FnExactBoardTickWrongFalsely : Prop := fnExactBoardTickRow.holds Tryz.pinned (OpenSpec.ofChange fnExactBoardTickWrong)

/-- 'laws.FnExactBoardRun': WHATEVER THE INPUT: true; the input reads as it did. -/
def fnExactBoardRunSpec : ChangeSpec := { name := "fnExactBoardRun", fn := fun _ => fun
  | [d1, d2] => { results := [.lit (.bool true)], args := [d1, d2] }
  | _ => none }
def fnExactBoardRunRow : OpenClaim := { program := "ytoncbegnhhcgmaagreat", sum := "14fbefa0c09e29eec5c44daa70456d08b68a2a24f5655c59c7e91b975f0666db", func := "loop.example/g03414/laws.FnExactBoardRun", spec := "fnExactBoardRun", recurses := true, apart := false }
def FnExactBoardRunSaid : Prop := fnExactBoardRunRow.holds Tryz.pinned (OpenSpec.ofChange fnExactBoardRunSpec)

/-- ITS FALSE NEIGHBOUR: 'it returns false'. Refute it at one input. -/
def fnExactBoardRunWrong : ChangeSpec := { name := "fnExactBoardRun", fn := fun _ => fun
  | [d1, d2] => { results := [.lit (.bool false)], args := [d1, d2] }
  | _ => none }
def FnExactBoardRunWrongFalsely : Prop := fnExactBoardRunRow.holds Tryz.pinned (OpenSpec.ofChange fnExactBoardRunWrong)

/-- 'laws.FnExactHalvesTick': WHATEVER THE INPUT: true; the input reads as it did. -/
def fnExactHalvesTickSpec : ChangeSpec := { name := "fnExactHalvesTick", fn := fun _ => fun
  | [d1, d2, d3, d4] => { results := [.lit (.bool true)], args := [d1, d2, d3, d4] }
  | _ => none }
def fnExactHalvesTickRow : OpenClaim := { program := "ytoncbegnhhcgmaagreat", sum := "14fbefa0c09e29eec5c44daa70456d08b68a2a24f5655c59c7e91b975f0666db", func := "loop.example/g03414/laws.FnExactHalvesTick", spec := "fnExactHalvesTick", recurses := true, apart := false }
def FnExactHalvesTickSaid : Prop := fnExactHalvesTickRow.holds Tryz.pinned (OpenSpec.ofChange fnExactHalvesTickSpec)

/-- ITS FALSE NEIGHBOUR: 'it returns false'. Refute it at one input. -/
def fnExactHalvesTickWrong : ChangeSpec := { name := "fnExactHalvesTick", fn := fun _ => fun
  | [d1, d2, d3, d4] => { results := [.lit (.bool false)], args := [d1, d2, d3, d4] }
  | _ => none }
def FnExactHalvesTickWrongFalsely : Prop := fnExactHalvesTickRow.holds Tryz.pinned (OpenSpec.ofChange fnExactHalvesTickWrong)

/-- 'laws.FnExactHalvesRun': WHATEVER THE INPUT: true; the input reads as it did. -/
def fnExactHalvesRunSpec : ChangeSpec := { name := "fnExactHalvesRun", fn := fun _ => fun
  | [d1, d2, d3, d4] => { results := [.lit (.bool true)], args := [d1, d2, d3, d4] }
  | _ => none }
def fnExactHalvesRunRow : OpenClaim := { program := "ytoncbegnhhcgmaagreat", sum := "14fbefa0c09e29eec5c44daa70456d08b68a2a24f5655c59c7e91b975f0666db", func := "loop.example/g03414/laws.FnExactHalvesRun", spec := "fnExactHalvesRun", recurses := true, apart := false }
def FnExactHalvesRunSaid : Prop := fnExactHalvesRunRow.holds Tryz.pinned (OpenSpec.ofChange fnExactHalvesRunSpec)

/-- ITS FALSE NEIGHBOUR: 'it returns false'. Refute it at one input. -/
def fnExactHalvesRunWrong : ChangeSpec := { name := "fnExactHalvesRun", fn := fun _ => fun
  | [d1, d2, d3, d4] => { results := [.lit (.bool false)], args := [d1, d2, d3, d4] }
  | _ => none }
def FnExactHalvesRunWrongFalsely : Prop := fnExactHalvesRunRow.holds Tryz.pinned (OpenSpec.ofChange fnExactHalvesRunWrong)

/- THE SECOND FORM. 'bulk': how many values and letters a reading holds, each counted each time it is reached (what is shared counts as often as it is met; a slice's spare places count too). A statement '..UptoSaid' is the law's where the arguments, and the package variables that the reading takes, are together of bulk at most 1048576: NARROWER than '..Said'. Prove '..Said' where nothing that the law and all that it calls make is longer than what came in: it says more and counts as full. Else prove '..UptoSaid'. A law counts once. -/
mutual
def uptoBulk {H : Type} : DataW H → Nat
  | .lit (.string bytes) => bytes.length + 1
  | .lit _ => 1
  | .nil => 1
  | .ptr d => uptoBulk d + 1
  | .slice elems spare => uptoBulkAll elems + uptoBulkAll spare + 1
  | .agg parts => uptoBulkAll parts + 1
  | .iface _ d => uptoBulk d + 1
  | .map entries => uptoBulkEntries entries + 1
  | .held _ => 1
def uptoBulkAll {H : Type} : List (DataW H) → Nat
  | [] => 0
  | d :: r => uptoBulk d + uptoBulkAll r
def uptoBulkEntries {H : Type} : List (Lit × DataW H) → Nat
  | [] => 0
  | x :: r => uptoBulkEntry x + uptoBulkEntries r
def uptoBulkEntry {H : Type} : Lit × DataW H → Nat
  | (.string bytes, d) => bytes.length + uptoBulk d + 1
  | (_, d) => uptoBulk d + 1
 end
def uptoSmall : (H : Type) → List (DataW H) → Bool := fun _ ds => decide (uptoBulkAll ds ≤ 1048576)
def OpenSpec.upto (s : _root_.Go.ChangeSpec) : _root_.Go.OpenSpec := { _root_.Go.OpenSpec.ofChange s with cond := some uptoSmall }

/-- 'laws.FnExactTraceOf', WHERE WHAT IT READS IS OF BULK AT MOST 1048576: true; the input reads as it did. -/
def fnExactTraceOfUptoRow : OpenClaim := { program := "ytoncbegnhhcgmaagreat", sum := "14fbefa0c09e29eec5c44daa70456d08b68a2a24f5655c59c7e91b975f0666db", func := "loop.example/g03414/laws.FnExactTraceOf", spec := "fnExactTraceOf", recurses := true, apart := false, narrowed := true }
def FnExactTraceOfUptoSaid : Prop := fnExactTraceOfUptoRow.holds Tryz.pinned (OpenSpec.upto fnExactTraceOfSpec)

/-- 'laws.FnExactBoardTick', WHERE WHAT IT READS IS OF BULK AT MOST 1048576: true; the input reads as it did. -/
def fnExactBoardTickUptoRow : OpenClaim := { program := "ytoncbegnhhcgmaagreat", sum := "14fbefa0c09e29eec5c44daa70456d08b68a2a24f5655c59c7e91b975f0666db", func := "loop.example/g03414/laws.FnExactBoardTick", spec := "fnExactBoardTick", recurses := true, apart := false, narrowed := true }
def FnExactBoardTickUptoSaid : Prop := fnExactBoardTickUptoRow.holds Tryz.pinned (OpenSpec.upto fnExactBoardTickSpec)

/-- 'laws.FnExactBoardRun', WHERE WHAT IT READS IS OF BULK AT MOST 1048576: true; the input reads as it did. -/
def fnExactBoardRunUptoRow : OpenClaim := { program := "ytoncbegnhhcgmaagreat", sum := "14fbefa0c09e29eec5c44daa70456d08b68a2a24f5655c59c7e91b975f0666db", func := "loop.example/g03414/laws.FnExactBoardRun", spec := "fnExactBoardRun", recurses := true, apart := false, narrowed := true }
def FnExactBoardRunUptoSaid : Prop := fnExactBoardRunUptoRow.holds Tryz.pinned (OpenSpec.upto fnExactBoardRunSpec)

/-- 'laws.FnExactHalvesTick', WHERE WHAT IT READS IS OF BULK AT MOST 1048576: true; the input reads as it did. -/
def fnExactHalvesTickUptoRow : OpenClaim := { program := "ytoncbegnhhcgmaagreat", sum := "14fbefa0c09e29eec5c44daa70456d08b68a2a24f5655c59c7e91b975f0666db", func := "loop.example/g03414/laws.FnExactHalvesTick", spec := "fnExactHalvesTick", recurses := true, apart := false, narrowed := true }
def FnExactHalvesTickUptoSaid : Prop := fnExactHalvesTickUptoRow.holds Tryz.pinned (OpenSpec.upto fnExactHalvesTickSpec)

/-- 'laws.FnExactHalvesRun', WHERE WHAT IT READS IS OF BULK AT MOST 1048576: true; the input reads as it did. -/
def fnExactHalvesRunUptoRow : OpenClaim := { program := "ytoncbegnhhcgmaagreat", sum := "14fbefa0c09e29eec5c44daa70456d08b68a2a24f5655c59c7e91b975f0666db", func := "loop.example/g03414/laws.FnExactHalvesRun", spec := "fnExactHalvesRun", recurses := true, apart := false, narrowed := true }
def FnExactHalvesRunUptoSaid : Prop := fnExactHalvesRunUptoRow.holds Tryz.pinned (OpenSpec.upto fnExactHalvesRunSpec)

end Rows
end Go.Proofs.YtoncbegnhhcgmaaGreat
