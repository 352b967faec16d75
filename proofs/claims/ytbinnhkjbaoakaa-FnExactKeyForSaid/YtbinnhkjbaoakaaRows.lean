/-
  No cell of these rows narrows 'for every input' (looked for: loops, veiled, ifaces, maps, wideKeys, modest, calm, conditions, laid).
  DERIVED. THE GIVEN ROWS OF THIS SEAT. 5 by the template 'for every input the law returns true; each argument reads behind the call as it read before'; 0 by the template 'total and deterministic' (their statements: YtbinnhkjbaoakaaTotals.lean).
  GIVEN WITH THE SEED: the statements are not yours to turn. If you find one false, say at which input.
  Laid BY PROGRAM, IN A SANDBOX (cutbox-rows.mjs): the forced cells as the released guide's own fill.sh prints them over the translation 44e46dd358dfb19d… (all of the seat's roots in one cut). By AI agents, Wed Nov 11 2026. No macro, syntax, notation, axiom, sorry.
-/
import Derived.Test.YtbinnhkjbaoakaaChecked
import GoSem.Claim
import GoSem.ClaimJoined
import GoSem.ClaimMapViews
import Derived.JoinedTies
import Derived.KernelRfl
namespace Go.Proofs.Ytbinnhkjbaoakaa
/- THE CELL 'sum', in the pinned program and in every row, IS THE sha256 OF THE DUMP (.gsa) THAT YtbinnhkjbaoakaaProg.lean LOADS. Nothing in Lean hashes anything: it is a label: what it is worth is what the hold of that sum in a sandbox is worth. -/
noncomputable def Try.pinned : Pinned := { name := "ytbinnhkjbaoakaa", sum := "44e46dd358dfb19d2ab05a769de244de6b6f625ecf10d5cb48a6b63e48484767", checked := Try.checked }
namespace Rows
def none {H : Type} : Left H := { results := [], args := [] }

/-- 'laws.FnExactStartTiming': WHATEVER THE INPUT: true; the input reads as it did. -/
def fnExactStartTimingSpec : ChangeSpec := { name := "fnExactStartTiming", fn := fun _ => fun
  | [d] => { results := [.lit (.bool true)], args := [d] }
  | _ => none }
def fnExactStartTimingRow : OpenClaim := { program := "ytbinnhkjbaoakaa", sum := "44e46dd358dfb19d2ab05a769de244de6b6f625ecf10d5cb48a6b63e48484767", func := "loop.example/g03414/laws.FnExactStartTiming", spec := "fnExactStartTiming", apart := false }
def FnExactStartTimingSaid : Prop := fnExactStartTimingRow.holds Try.pinned (OpenSpec.ofChange fnExactStartTimingSpec)

/-- ITS FALSE NEIGHBOUR: 'it returns false'. Refute it at one input. -/
def fnExactStartTimingWrong : ChangeSpec := { name := "fnExactStartTiming", fn := fun _ => fun
  | [d] => { results := [.lit (.bool false)], args := [d] }
  | _ => none }
def FnExactStartTimingWrongFalsely : Prop := fnExactStartTimingRow.holds Try.pinned (OpenSpec.ofChange fnExactStartTimingWrong)

/-- 'laws.FnExactKeyFor': WHATEVER THE INPUT: true; the input reads as it did. -/
def fnExactKeyForSpec : ChangeSpec := { name := "fnExactKeyFor", fn := fun _ => fun
  | [d1, d2, d3] => { results := [.lit (.bool true)], args := [d1, d2, d3] }
  | _ => none }
def fnExactKeyForRow : OpenClaim := { program := "ytbinnhkjbaoakaa", sum := "44e46dd358dfb19d2ab05a769de244de6b6f625ecf10d5cb48a6b63e48484767", func := "loop.example/g03414/laws.FnExactKeyFor", spec := "fnExactKeyFor", apart := false }
def FnExactKeyForSaid : Prop := fnExactKeyForRow.holds Try.pinned (OpenSpec.ofChange fnExactKeyForSpec)

/-- ITS FALSE NEIGHBOUR: 'it returns false'. Refute it at one input. -/
def fnExactKeyForWrong : ChangeSpec := { name := "fnExactKeyFor", fn := fun _ => fun
  | [d1, d2, d3] => { results := [.lit (.bool false)], args := [d1, d2, d3] }
  | _ => none }
def FnExactKeyForWrongFalsely : Prop := fnExactKeyForRow.holds Try.pinned (OpenSpec.ofChange fnExactKeyForWrong)

/-- 'laws.FnExactLayersUsed': WHATEVER THE INPUT: true; the input reads as it did. -/
def fnExactLayersUsedSpec : ChangeSpec := { name := "fnExactLayersUsed", fn := fun _ => fun
  | [d] => { results := [.lit (.bool true)], args := [d] }
  | _ => none }
def fnExactLayersUsedRow : OpenClaim := { program := "ytbinnhkjbaoakaa", sum := "44e46dd358dfb19d2ab05a769de244de6b6f625ecf10d5cb48a6b63e48484767", func := "loop.example/g03414/laws.FnExactLayersUsed", spec := "fnExactLayersUsed", apart := false }
def FnExactLayersUsedSaid : Prop := fnExactLayersUsedRow.holds Try.pinned (OpenSpec.ofChange fnExactLayersUsedSpec)

/-- ITS FALSE NEIGHBOUR: 'it returns false'. Refute it at one input. -/
def fnExactLayersUsedWrong : ChangeSpec := { name := "fnExactLayersUsed", fn := fun _ => fun
  | [d] => { results := [.lit (.bool false)], args := [d] }
  | _ => none }
def FnExactLayersUsedWrongFalsely : Prop := fnExactLayersUsedRow.holds Try.pinned (OpenSpec.ofChange fnExactLayersUsedWrong)

/-- 'laws.FnExactFixedAfter': WHATEVER THE INPUT: true; the input reads as it did. -/
def fnExactFixedAfterSpec : ChangeSpec := { name := "fnExactFixedAfter", fn := fun _ => fun
  | [d1, d2, d3] => { results := [.lit (.bool true)], args := [d1, d2, d3] }
  | _ => none }
def fnExactFixedAfterRow : OpenClaim := { program := "ytbinnhkjbaoakaa", sum := "44e46dd358dfb19d2ab05a769de244de6b6f625ecf10d5cb48a6b63e48484767", func := "loop.example/g03414/laws.FnExactFixedAfter", spec := "fnExactFixedAfter", apart := false }
def FnExactFixedAfterSaid : Prop := fnExactFixedAfterRow.holds Try.pinned (OpenSpec.ofChange fnExactFixedAfterSpec)

/-- ITS FALSE NEIGHBOUR: 'it returns false'. Refute it at one input. -/
def fnExactFixedAfterWrong : ChangeSpec := { name := "fnExactFixedAfter", fn := fun _ => fun
  | [d1, d2, d3] => { results := [.lit (.bool false)], args := [d1, d2, d3] }
  | _ => none }
def FnExactFixedAfterWrongFalsely : Prop := fnExactFixedAfterRow.holds Try.pinned (OpenSpec.ofChange fnExactFixedAfterWrong)

/-- 'laws.FnExactHalfKeys': WHATEVER THE INPUT: true; the input reads as it did. -/
def fnExactHalfKeysSpec : ChangeSpec := { name := "fnExactHalfKeys", fn := fun _ => fun
  | [d] => { results := [.lit (.bool true)], args := [d] }
  | _ => none }
def fnExactHalfKeysRow : OpenClaim := { program := "ytbinnhkjbaoakaa", sum := "44e46dd358dfb19d2ab05a769de244de6b6f625ecf10d5cb48a6b63e48484767", func := "loop.example/g03414/laws.FnExactHalfKeys", spec := "fnExactHalfKeys", apart := false }
def FnExactHalfKeysSaid : Prop := fnExactHalfKeysRow.holds Try.pinned (OpenSpec.ofChange fnExactHalfKeysSpec)

/-- ITS FALSE NEIGHBOUR: 'it returns false'. Refute it at one input. -/
def fnExactHalfKeysWrong : ChangeSpec := { name := "fnExactHalfKeys", fn := fun _ => fun
  | [d] => { results := [.lit (.bool false)], args := [d] }
  | _ => none }
def FnExactHalfKeysWrongFalsely : Prop := fnExactHalfKeysRow.holds Try.pinned (OpenSpec.ofChange fnExactHalfKeysWrong)

/- THE SECOND FORM. 'bulk': how many values and letters a reading holds, each counted each time it is reached (what is shared counts as often as it is met; a slice's spare places count too). A statement '..UptoSaid' is the law's where the arguments, and the package variables that the reading takes, are together of bulk at most 1048576: NARROWER than '..Said'. Prove '..Said' where nothing that the law and all that it calls make is longer than what came in: it says more and counts as full. Else prove '..UptoSaid'. A law counts once. -/
mutual
def uptoBulk {H : Type} : DataW H → Nat
  | .lit (.string bytes) => bytes.length + 1
  | .lit _ => 1
  | .nil => 1
  | .ptr d => uptoBulk d + 1
  | .slice elems spare => uptoBulkAll elems + uptoBulkAll spare + 1
  | .agg parts => uptoBulkAll parts + 1
  | .iface _ d => uptoBulk d + 1
  | .map entries => uptoBulkEntries entries + 1
  | .held _ => 1
def uptoBulkAll {H : Type} : List (DataW H) → Nat
  | [] => 0
  | d :: r => uptoBulk d + uptoBulkAll r
def uptoBulkEntries {H : Type} : List (Lit × DataW H) → Nat
  | [] => 0
  | x :: r => uptoBulkEntry x + uptoBulkEntries r
def uptoBulkEntry {H : Type} : Lit × DataW H → Nat
  | (.string bytes, d) => bytes.length + uptoBulk d + 1
  | (_, d) => uptoBulk d + 1
 end
def uptoSmall : (H : Type) → List (DataW H) → Bool := fun _ ds => decide (uptoBulkAll ds ≤ 1048576)
def OpenSpec.upto (s : _root_.Go.ChangeSpec) : _root_.Go.OpenSpec := { _root_.Go.OpenSpec.ofChange s with cond := some uptoSmall }

/-- 'laws.FnExactStartTiming', WHERE WHAT IT READS IS OF BULK AT MOST 1048576: true; the input reads as it did. -/
def fnExactStartTimingUptoRow : OpenClaim := { program := "ytbinnhkjbaoakaa", sum := "44e46dd358dfb19d2ab05a769de244de6b6f625ecf10d5cb48a6b63e48484767", func := "loop.example/g03414/laws.FnExactStartTiming", spec := "fnExactStartTiming", apart := false, narrowed := true }
def FnExactStartTimingUptoSaid : Prop := fnExactStartTimingUptoRow.holds Try.pinned (OpenSpec.upto fnExactStartTimingSpec)

/-- 'laws.FnExactKeyFor', WHERE WHAT IT READS IS OF BULK AT MOST 1048576: true; the input reads as it did. -/
def fnExactKeyForUptoRow : OpenClaim := { program := "ytbinnhkjbaoakaa", sum := "44e46dd358dfb19d2ab05a769de244de6b6f625ecf10d5cb48a6b63e48484767", func := "loop.example/g03414/laws.FnExactKeyFor", spec := "fnExactKeyFor", apart := false, narrowed := true }
def FnExactKeyForUptoSaid : Prop := fnExactKeyForUptoRow.holds Try.pinned (OpenSpec.upto fnExactKeyForSpec)

/-- 'laws.FnExactLayersUsed', WHERE WHAT IT READS IS OF BULK AT MOST 1048576: true; the input reads as it did. -/
def fnExactLayersUsedUptoRow : OpenClaim := { program := "ytbinnhkjbaoakaa", sum := "44e46dd358dfb19d2ab05a769de244de6b6f625ecf10d5cb48a6b63e48484767", func := "loop.example/g03414/laws.FnExactLayersUsed", spec := "fnExactLayersUsed", apart := false, narrowed := true }
def FnExactLayersUsedUptoSaid : Prop := fnExactLayersUsedUptoRow.holds Try.pinned (OpenSpec.upto fnExactLayersUsedSpec)

/-- 'laws.FnExactFixedAfter', WHERE WHAT IT READS IS OF BULK AT MOST 1048576: true; the input reads as it did. -/
def fnExactFixedAfterUptoRow : OpenClaim := { program := "ytbinnhkjbaoakaa", sum := "44e46dd358dfb19d2ab05a769de244de6b6f625ecf10d5cb48a6b63e48484767", func := "loop.example/g03414/laws.FnExactFixedAfter", spec := "fnExactFixedAfter", apart := false, narrowed := true }
def FnExactFixedAfterUptoSaid : Prop := fnExactFixedAfterUptoRow.holds Try.pinned (OpenSpec.upto fnExactFixedAfterSpec)

/-- 'laws.FnExactHalfKeys', WHERE WHAT IT READS IS OF BULK AT MOST 1048576: true; the input reads as it did. -/
def fnExactHalfKeysUptoRow : OpenClaim := { program := "ytbinnhkjbaoakaa", sum := "44e46dd358dfb19d2ab05a769de244de6b6f625ecf10d5cb48a6b63e48484767", func := "loop.example/g03414/laws.FnExactHalfKeys", spec := "fnExactHalfKeys", apart := false, narrowed := true }
def FnExactHalfKeysUptoSaid : Prop := fnExactHalfKeysUptoRow.holds Try.pinned (OpenSpec.upto fnExactHalfKeysSpec)

end Rows
end Go.Proofs.Ytbinnhkjbaoakaa
