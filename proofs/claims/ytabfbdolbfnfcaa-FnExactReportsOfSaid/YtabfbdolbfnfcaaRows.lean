/-
  No cell of these rows narrows 'for every input' (looked for: loops, veiled, ifaces, maps, wideKeys, modest, calm, conditions, laid).
  DERIVED. THE GIVEN ROWS OF THIS SEAT. 6 by the template 'for every input the law returns true; each argument reads behind the call as it read before'; 0 by the template 'total and deterministic' (their statements: YtabfbdolbfnfcaaTotals.lean).
  GIVEN WITH THE SEED: the statements are not yours to turn. If you find one false, say at which input.
  Laid BY PROGRAM, IN A SANDBOX (cutbox-rows.mjs): the forced cells as the released guide's own fill.sh prints them over the translation 79be06b5f3b25b9d… (all of the seat's roots in one cut). By AI agents, Wed Nov 11 2026. No macro, syntax, notation, axiom, sorry.
-/
import Derived.Test.YtabfbdolbfnfcaaChecked
import GoSem.Claim
import GoSem.ClaimJoined
import GoSem.ClaimMapViews
import Derived.JoinedTies
import Derived.KernelRfl
namespace Go.Proofs.Ytabfbdolbfnfcaa
/- THE CELL 'sum', in the pinned program and in every row, IS THE sha256 OF THE DUMP (.gsa) THAT YtabfbdolbfnfcaaProg.lean LOADS. Nothing in Lean hashes anything: it is a label: what it is worth is what the hold of that sum in a sandbox is worth. -/
noncomputable def Try.pinned : Pinned := { name := "ytabfbdolbfnfcaa", sum := "79be06b5f3b25b9dec02d693fb5e61f222a4f1d9e3ad02f366958fe1c7d19da7", checked := Try.checked }
namespace Rows
def none {H : Type} : Left H := { results := [], args := [] }

/-- 'laws.FnExactIsPacket': WHATEVER THE INPUT: true; the input reads as it did. -/
def fnExactIsPacketSpec : ChangeSpec := { name := "fnExactIsPacket", fn := fun _ => fun
  | [d] => { results := [.lit (.bool true)], args := [d] }
  | _ => none }
def fnExactIsPacketRow : OpenClaim := { program := "ytabfbdolbfnfcaa", sum := "79be06b5f3b25b9dec02d693fb5e61f222a4f1d9e3ad02f366958fe1c7d19da7", func := "loop.example/g03414/laws.FnExactIsPacket", spec := "fnExactIsPacket", apart := false }
def FnExactIsPacketSaid : Prop := fnExactIsPacketRow.holds Try.pinned (OpenSpec.ofChange fnExactIsPacketSpec)

/-- ITS FALSE NEIGHBOUR: 'it returns false'. Refute it at one input. -/
def fnExactIsPacketWrong : ChangeSpec := { name := "fnExactIsPacket", fn := fun _ => fun
  | [d] => { results := [.lit (.bool false)], args := [d] }
  | _ => none }
def FnExactIsPacketWrongFalsely : Prop := fnExactIsPacketRow.holds Try.pinned (OpenSpec.ofChange fnExactIsPacketWrong)

/-- 'laws.FnExactSealPacket': WHATEVER THE INPUT: true; the input reads as it did. -/
def fnExactSealPacketSpec : ChangeSpec := { name := "fnExactSealPacket", fn := fun _ => fun
  | [d] => { results := [.lit (.bool true)], args := [d] }
  | _ => none }
def fnExactSealPacketRow : OpenClaim := { program := "ytabfbdolbfnfcaa", sum := "79be06b5f3b25b9dec02d693fb5e61f222a4f1d9e3ad02f366958fe1c7d19da7", func := "loop.example/g03414/laws.FnExactSealPacket", spec := "fnExactSealPacket", apart := false }
def FnExactSealPacketSaid : Prop := fnExactSealPacketRow.holds Try.pinned (OpenSpec.ofChange fnExactSealPacketSpec)

/-- ITS FALSE NEIGHBOUR: 'it returns false'. Refute it at one input. -/
def fnExactSealPacketWrong : ChangeSpec := { name := "fnExactSealPacket", fn := fun _ => fun
  | [d] => { results := [.lit (.bool false)], args := [d] }
  | _ => none }
def FnExactSealPacketWrongFalsely : Prop := fnExactSealPacketRow.holds Try.pinned (OpenSpec.ofChange fnExactSealPacketWrong)

/-- 'laws.FnExactReadScript': WHATEVER THE INPUT: true; the input reads as it did. -/
def fnExactReadScriptSpec : ChangeSpec := { name := "fnExactReadScript", fn := fun _ => fun
  | [d1, d2] => { results := [.lit (.bool true)], args := [d1, d2] }
  | _ => none }
def fnExactReadScriptRow : OpenClaim := { program := "ytabfbdolbfnfcaa", sum := "79be06b5f3b25b9dec02d693fb5e61f222a4f1d9e3ad02f366958fe1c7d19da7", func := "loop.example/g03414/laws.FnExactReadScript", spec := "fnExactReadScript", apart := false }
def FnExactReadScriptSaid : Prop := fnExactReadScriptRow.holds Try.pinned (OpenSpec.ofChange fnExactReadScriptSpec)

/-- ITS FALSE NEIGHBOUR: 'it returns false'. Refute it at one input. -/
def fnExactReadScriptWrong : ChangeSpec := { name := "fnExactReadScript", fn := fun _ => fun
  | [d1, d2] => { results := [.lit (.bool false)], args := [d1, d2] }
  | _ => none }
def FnExactReadScriptWrongFalsely : Prop := fnExactReadScriptRow.holds Try.pinned (OpenSpec.ofChange fnExactReadScriptWrong)

/-- 'laws.FnExactReportsOf': WHATEVER THE INPUT: true; the input reads as it did. -/
def fnExactReportsOfSpec : ChangeSpec := { name := "fnExactReportsOf", fn := fun _ => fun
  | [d] => { results := [.lit (.bool true)], args := [d] }
  | _ => none }
def fnExactReportsOfRow : OpenClaim := { program := "ytabfbdolbfnfcaa", sum := "79be06b5f3b25b9dec02d693fb5e61f222a4f1d9e3ad02f366958fe1c7d19da7", func := "loop.example/g03414/laws.FnExactReportsOf", spec := "fnExactReportsOf", apart := false }
def FnExactReportsOfSaid : Prop := fnExactReportsOfRow.holds Try.pinned (OpenSpec.ofChange fnExactReportsOfSpec)

/-- ITS FALSE NEIGHBOUR: 'it returns false'. Refute it at one input. -/
def fnExactReportsOfWrong : ChangeSpec := { name := "fnExactReportsOf", fn := fun _ => fun
  | [d] => { results := [.lit (.bool false)], args := [d] }
  | _ => none }
def FnExactReportsOfWrongFalsely : Prop := fnExactReportsOfRow.holds Try.pinned (OpenSpec.ofChange fnExactReportsOfWrong)

/-- 'laws.FnExactIsFixed': WHATEVER THE INPUT: true; the input reads as it did. -/
def fnExactIsFixedSpec : ChangeSpec := { name := "fnExactIsFixed", fn := fun _ => fun
  | [d1, d2] => { results := [.lit (.bool true)], args := [d1, d2] }
  | _ => none }
def fnExactIsFixedRow : OpenClaim := { program := "ytabfbdolbfnfcaa", sum := "79be06b5f3b25b9dec02d693fb5e61f222a4f1d9e3ad02f366958fe1c7d19da7", func := "loop.example/g03414/laws.FnExactIsFixed", spec := "fnExactIsFixed", apart := false }
def FnExactIsFixedSaid : Prop := fnExactIsFixedRow.holds Try.pinned (OpenSpec.ofChange fnExactIsFixedSpec)

/-- ITS FALSE NEIGHBOUR: 'it returns false'. Refute it at one input. -/
def fnExactIsFixedWrong : ChangeSpec := { name := "fnExactIsFixed", fn := fun _ => fun
  | [d1, d2] => { results := [.lit (.bool false)], args := [d1, d2] }
  | _ => none }
def FnExactIsFixedWrongFalsely : Prop := fnExactIsFixedRow.holds Try.pinned (OpenSpec.ofChange fnExactIsFixedWrong)

/-- 'laws.FnExactAcceptedRun': WHATEVER THE INPUT: true; the input reads as it did. -/
def fnExactAcceptedRunSpec : ChangeSpec := { name := "fnExactAcceptedRun", fn := fun _ => fun
  | [d1, d2, d3] => { results := [.lit (.bool true)], args := [d1, d2, d3] }
  | _ => none }
def fnExactAcceptedRunRow : OpenClaim := { program := "ytabfbdolbfnfcaa", sum := "79be06b5f3b25b9dec02d693fb5e61f222a4f1d9e3ad02f366958fe1c7d19da7", func := "loop.example/g03414/laws.FnExactAcceptedRun", spec := "fnExactAcceptedRun", apart := false }
def FnExactAcceptedRunSaid : Prop := fnExactAcceptedRunRow.holds Try.pinned (OpenSpec.ofChange fnExactAcceptedRunSpec)

/-- ITS FALSE NEIGHBOUR: 'it returns false'. Refute it at one input. -/
def fnExactAcceptedRunWrong : ChangeSpec := { name := "fnExactAcceptedRun", fn := fun _ => fun
  | [d1, d2, d3] => { results := [.lit (.bool false)], args := [d1, d2, d3] }
  | _ => none }
def FnExactAcceptedRunWrongFalsely : Prop := fnExactAcceptedRunRow.holds Try.pinned (OpenSpec.ofChange fnExactAcceptedRunWrong)

/- THE SECOND FORM. 'bulk': how many values and letters a reading holds, each counted each time it is reached (what is shared counts as often as it is met; a slice's spare places count too). A statement '..UptoSaid' is the law's where the arguments, and the package variables that the reading takes, are together of bulk at most 1048576: NARROWER than '..Said'. Prove '..Said' where nothing that the law and all that it calls make is longer than what came in: it says more and counts as full. Else prove '..UptoSaid'. A law counts once. -/
mutual
def uptoBulk {H : Type} : DataW H → Nat
  | .lit (.string bytes) => bytes.length + 1
  | .lit _ => 1
  | .nil => 1
  | .ptr d => uptoBulk d + 1
  | .slice elems spare => uptoBulkAll elems + uptoBulkAll spare + 1
  | .agg parts => uptoBulkAll parts + 1
  | .iface _ d => uptoBulk d + 1
  | .map entries => uptoBulkEntries entries + 1
  | .held _ => 1
def uptoBulkAll {H : Type} : List (DataW H) → Nat
  | [] => 0
  | d :: r => uptoBulk d + uptoBulkAll r
def uptoBulkEntries {H : Type} : List (Lit × DataW H) → Nat
  | [] => 0
  | x :: r => uptoBulkEntry x + uptoBulkEntries r
def uptoBulkEntry {H : Type} : Lit × DataW H → Nat
  | (.string bytes, d) => bytes.length + uptoBulk d + 1
  | (_, d) => uptoBulk d + 1
 end
def uptoSmall : (H : Type) → List (DataW H) → Bool := fun _ ds => decide (uptoBulkAll ds ≤ 1048576)
def OpenSpec.upto (s : _root_.Go.ChangeSpec) : _root_.Go.OpenSpec := { _root_.Go.OpenSpec.ofChange s with cond := some uptoSmall }

/-- 'laws.FnExactIsPacket', WHERE WHAT IT READS IS OF BULK AT MOST 1048576: true; the input reads as it did. -/
def fnExactIsPacketUptoRow : OpenClaim := { program := "ytabfbdolbfnfcaa", sum := "79be06b5f3b25b9dec02d693fb5e61f222a4f1d9e3ad02f366958fe1c7d19da7", func := "loop.example/g03414/laws.FnExactIsPacket", spec := "fnExactIsPacket", apart := false, narrowed := true }
def FnExactIsPacketUptoSaid : Prop := fnExactIsPacketUptoRow.holds Try.pinned (OpenSpec.upto fnExactIsPacketSpec)

/-- 'laws.FnExactSealPacket', WHERE WHAT IT READS IS OF BULK AT MOST 1048576: true; the input reads as it did. -/
def fnExactSealPacketUptoRow : OpenClaim := { program := "ytabfbdolbfnfcaa", sum := "79be06b5f3b25b9dec02d693fb5e61f222a4f1d9e3ad02f366958fe1c7d19da7", func := "loop.example/g03414/laws.FnExactSealPacket", spec := "fnExactSealPacket", apart := false, narrowed := true }
def FnExactSealPacketUptoSaid : Prop := fnExactSealPacketUptoRow.holds Try.pinned (OpenSpec.upto fnExactSealPacketSpec)

/-- 'laws.FnExactReadScript', WHERE WHAT IT READS IS OF BULK AT MOST 1048576: true; the input reads as it did. -/
def fnExactReadScriptUptoRow : OpenClaim := { program := "ytabfbdolbfnfcaa", sum := "79be06b5f3b25b9dec02d693fb5e61f222a4f1d9e3ad02f366958fe1c7d19da7", func := "loop.example/g03414/laws.FnExactReadScript", spec := "fnExactReadScript", apart := false, narrowed := true }
def FnExactReadScriptUptoSaid : Prop := fnExactReadScriptUptoRow.holds Try.pinned (OpenSpec.upto fnExactReadScriptSpec)

/-- 'laws.FnExactReportsOf', WHERE WHAT IT READS IS OF BULK AT MOST 1048576: true; the input reads as it did. -/
def fnExactReportsOfUptoRow : OpenClaim := { program := "ytabfbdolbfnfcaa", sum := "79be06b5f3b25b9dec02d693fb5e61f222a4f1d9e3ad02f366958fe1c7d19da7", func := "loop.example/g03414/laws.FnExactReportsOf", spec := "fnExactReportsOf", apart := false, narrowed := true }
def FnExactReportsOfUptoSaid : Prop := fnExactReportsOfUptoRow.holds Try.pinned (OpenSpec.upto fnExactReportsOfSpec)

/-- 'laws.FnExactIsFixed', WHERE WHAT IT READS IS OF BULK AT MOST 1048576: true; the input reads as it did. -/
def fnExactIsFixedUptoRow : OpenClaim := { program := "ytabfbdolbfnfcaa", sum := "79be06b5f3b25b9dec02d693fb5e61f222a4f1d9e3ad02f366958fe1c7d19da7", func := "loop.example/g03414/laws.FnExactIsFixed", spec := "fnExactIsFixed", apart := false, narrowed := true }
def FnExactIsFixedUptoSaid : Prop := fnExactIsFixedUptoRow.holds Try.pinned (OpenSpec.upto fnExactIsFixedSpec)

/-- 'laws.FnExactAcceptedRun', WHERE WHAT IT READS IS OF BULK AT MOST 1048576: true; the input reads as it did. -/
def fnExactAcceptedRunUptoRow : OpenClaim := { program := "ytabfbdolbfnfcaa", sum := "79be06b5f3b25b9dec02d693fb5e61f222a4f1d9e3ad02f366958fe1c7d19da7", func := "loop.example/g03414/laws.FnExactAcceptedRun", spec := "fnExactAcceptedRun", apart := false, narrowed := true }
def FnExactAcceptedRunUptoSaid : Prop := fnExactAcceptedRunUptoRow.holds Try.pinned (OpenSpec.upto fnExactAcceptedRunSpec)

end Rows
end Go.Proofs.Ytabfbdolbfnfcaa
