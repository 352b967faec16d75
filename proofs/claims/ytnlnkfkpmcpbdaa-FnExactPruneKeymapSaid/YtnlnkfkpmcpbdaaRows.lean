/-
  No cell of these rows narrows 'for every input' (looked for: loops, veiled, ifaces, maps, wideKeys, modest, calm, conditions, laid).
  DERIVED. THE GIVEN ROWS OF THIS SEAT. 5 by the template 'for every input the law returns true; each argument reads behind the call as it read before'; 0 by the template 'total and deterministic' (their statements: YtnlnkfkpmcpbdaaTotals.lean).
  GIVEN WITH THE SEED: the statements are not yours to turn. If you find one false, say at which input.
  Laid BY PROGRAM, IN A SANDBOX (cutbox-rows.mjs): the forced cells as the released guide's own fill.sh prints them over the translation 5db0cd59f815bc05… (all of the seat's roots in one cut). By AI agents, Wed Nov 11 2026. No macro, syntax, notation, axiom, sorry.
-/
import Derived.Test.YtnlnkfkpmcpbdaaChecked
import GoSem.Claim
import GoSem.ClaimJoined
import GoSem.ClaimMapViews
import Derived.JoinedTies
import Derived.KernelRfl
namespace Go.Proofs.Ytnlnkfkpmcpbdaa
/- THE CELL 'sum', in the pinned program and in every row, IS THE sha256 OF THE DUMP (.gsa) THAT YtnlnkfkpmcpbdaaProg.lean LOADS. Nothing in Lean hashes anything: it is a label: what it is worth is what the hold of that sum in a sandbox is worth. -/
noncomputable def Try.pinned : Pinned := { name := "ytnlnkfkpmcpbdaa", sum := "5db0cd59f815bc055af7331eea33c1a2f8021528946ae681e69121ce0ee466fc", checked := Try.checked }
namespace Rows
def none {H : Type} : Left H := { results := [], args := [] }

/-- 'laws.FnExactWriteScript': WHATEVER THE INPUT: true; the input reads as it did. -/
def fnExactWriteScriptSpec : ChangeSpec := { name := "fnExactWriteScript", fn := fun _ => fun
  | [d] => { results := [.lit (.bool true)], args := [d] }
  | _ => none }
def fnExactWriteScriptRow : OpenClaim := { program := "ytnlnkfkpmcpbdaa", sum := "5db0cd59f815bc055af7331eea33c1a2f8021528946ae681e69121ce0ee466fc", func := "loop.example/g03414/laws.FnExactWriteScript", spec := "fnExactWriteScript", apart := false }
def FnExactWriteScriptSaid : Prop := fnExactWriteScriptRow.holds Try.pinned (OpenSpec.ofChange fnExactWriteScriptSpec)

/-- ITS FALSE NEIGHBOUR: 'it returns false'. Refute it at one input. -/
def fnExactWriteScriptWrong : ChangeSpec := { name := "fnExactWriteScript", fn := fun _ => fun
  | [d] => { results := [.lit (.bool false)], args := [d] }
  | _ => none }
def FnExactWriteScriptWrongFalsely : Prop := fnExactWriteScriptRow.holds Try.pinned (OpenSpec.ofChange fnExactWriteScriptWrong)

/-- 'laws.FnExactPruneKeymap': WHATEVER THE INPUT: true; the input reads as it did. -/
def fnExactPruneKeymapSpec : ChangeSpec := { name := "fnExactPruneKeymap", fn := fun _ => fun
  | [d] => { results := [.lit (.bool true)], args := [d] }
  | _ => none }
def fnExactPruneKeymapRow : OpenClaim := { program := "ytnlnkfkpmcpbdaa", sum := "5db0cd59f815bc055af7331eea33c1a2f8021528946ae681e69121ce0ee466fc", func := "loop.example/g03414/laws.FnExactPruneKeymap", spec := "fnExactPruneKeymap", apart := false }
def FnExactPruneKeymapSaid : Prop := fnExactPruneKeymapRow.holds Try.pinned (OpenSpec.ofChange fnExactPruneKeymapSpec)

/-- ITS FALSE NEIGHBOUR: 'it returns false'. Refute it at one input. -/
def fnExactPruneKeymapWrong : ChangeSpec := { name := "fnExactPruneKeymap", fn := fun _ => fun
  | [d] => { results := [.lit (.bool false)], args := [d] }
  | _ => none }
def FnExactPruneKeymapWrongFalsely : Prop := fnExactPruneKeymapRow.holds Try.pinned (OpenSpec.ofChange fnExactPruneKeymapWrong)

/-- 'laws.FnExactKeymapFrom': WHATEVER THE INPUT: true; the input reads as it did. -/
def fnExactKeymapFromSpec : ChangeSpec := { name := "fnExactKeymapFrom", fn := fun _ => fun
  | [d1, d2] => { results := [.lit (.bool true)], args := [d1, d2] }
  | _ => none }
def fnExactKeymapFromRow : OpenClaim := { program := "ytnlnkfkpmcpbdaa", sum := "5db0cd59f815bc055af7331eea33c1a2f8021528946ae681e69121ce0ee466fc", func := "loop.example/g03414/laws.FnExactKeymapFrom", spec := "fnExactKeymapFrom", apart := false }
def FnExactKeymapFromSaid : Prop := fnExactKeymapFromRow.holds Try.pinned (OpenSpec.ofChange fnExactKeymapFromSpec)

/-- ITS FALSE NEIGHBOUR: 'it returns false'. Refute it at one input. -/
def fnExactKeymapFromWrong : ChangeSpec := { name := "fnExactKeymapFrom", fn := fun _ => fun
  | [d1, d2] => { results := [.lit (.bool false)], args := [d1, d2] }
  | _ => none }
def FnExactKeymapFromWrongFalsely : Prop := fnExactKeymapFromRow.holds Try.pinned (OpenSpec.ofChange fnExactKeymapFromWrong)

/-- 'laws.FnExactAnswerPacket': WHATEVER THE INPUT: true; the input reads as it did. -/
def fnExactAnswerPacketSpec : ChangeSpec := { name := "fnExactAnswerPacket", fn := fun _ => fun
  | [d1, d2] => { results := [.lit (.bool true)], args := [d1, d2] }
  | _ => none }
def fnExactAnswerPacketRow : OpenClaim := { program := "ytnlnkfkpmcpbdaa", sum := "5db0cd59f815bc055af7331eea33c1a2f8021528946ae681e69121ce0ee466fc", func := "loop.example/g03414/laws.FnExactAnswerPacket", spec := "fnExactAnswerPacket", apart := false }
def FnExactAnswerPacketSaid : Prop := fnExactAnswerPacketRow.holds Try.pinned (OpenSpec.ofChange fnExactAnswerPacketSpec)

/-- ITS FALSE NEIGHBOUR: 'it returns false'. Refute it at one input. -/
def fnExactAnswerPacketWrong : ChangeSpec := { name := "fnExactAnswerPacket", fn := fun _ => fun
  | [d1, d2] => { results := [.lit (.bool false)], args := [d1, d2] }
  | _ => none }
def FnExactAnswerPacketWrongFalsely : Prop := fnExactAnswerPacketRow.holds Try.pinned (OpenSpec.ofChange fnExactAnswerPacketWrong)

/-- 'laws.FnExactPlayPackets': WHATEVER THE INPUT: true; the input reads as it did. -/
def fnExactPlayPacketsSpec : ChangeSpec := { name := "fnExactPlayPackets", fn := fun _ => fun
  | [d1, d2] => { results := [.lit (.bool true)], args := [d1, d2] }
  | _ => none }
def fnExactPlayPacketsRow : OpenClaim := { program := "ytnlnkfkpmcpbdaa", sum := "5db0cd59f815bc055af7331eea33c1a2f8021528946ae681e69121ce0ee466fc", func := "loop.example/g03414/laws.FnExactPlayPackets", spec := "fnExactPlayPackets", apart := false }
def FnExactPlayPacketsSaid : Prop := fnExactPlayPacketsRow.holds Try.pinned (OpenSpec.ofChange fnExactPlayPacketsSpec)

/-- ITS FALSE NEIGHBOUR: 'it returns false'. Refute it at one input. -/
def fnExactPlayPacketsWrong : ChangeSpec := { name := "fnExactPlayPackets", fn := fun _ => fun
  | [d1, d2] => { results := [.lit (.bool false)], args := [d1, d2] }
  | _ => none }
def FnExactPlayPacketsWrongFalsely : Prop := fnExactPlayPacketsRow.holds Try.pinned (OpenSpec.ofChange fnExactPlayPacketsWrong)

/- THE SECOND FORM. 'bulk': how many values and letters a reading holds, each counted each time it is reached (what is shared counts as often as it is met; a slice's spare places count too). A statement '..UptoSaid' is the law's where the arguments, and the package variables that the reading takes, are together of bulk at most 1048576: NARROWER than '..Said'. Prove '..Said' where nothing that the law and all that it calls make is longer than what came in: it says more and counts as full. Else prove '..UptoSaid'. A law counts once. -/
mutual
def uptoBulk {H : Type} : DataW H → Nat
  | .lit (.string bytes) => bytes.length + 1
  | .lit _ => 1
  | .nil => 1
  | .ptr d => uptoBulk d + 1
  | .slice elems spare => uptoBulkAll elems + uptoBulkAll spare + 1
  | .agg parts => uptoBulkAll parts + 1
  | .iface _ d => uptoBulk d + 1
  | .map entries => uptoBulkEntries entries + 1
  | .held _ => 1
def uptoBulkAll {H : Type} : List (DataW H) → Nat
  | [] => 0
  | d :: r => uptoBulk d + uptoBulkAll r
def uptoBulkEntries {H : Type} : List (Lit × DataW H) → Nat
  | [] => 0
  | x :: r => uptoBulkEntry x + uptoBulkEntries r
def uptoBulkEntry {H : Type} : Lit × DataW H → Nat
  | (.string bytes, d) => bytes.length + uptoBulk d + 1
  | (_, d) => uptoBulk d + 1
 end
def uptoSmall : (H : Type) → List (DataW H) → Bool := fun _ ds => decide (uptoBulkAll ds ≤ 1048576)
def OpenSpec.upto (s : _root_.Go.ChangeSpec) : _root_.Go.OpenSpec := { _root_.Go.OpenSpec.ofChange s with cond := some uptoSmall }

/-- 'laws.FnExactWriteScript', WHERE WHAT IT READS IS OF BULK AT MOST 1048576: true; the input reads as it did. -/
def fnExactWriteScriptUptoRow : OpenClaim := { program := "ytnlnkfkpmcpbdaa", sum := "5db0cd59f815bc055af7331eea33c1a2f8021528946ae681e69121ce0ee466fc", func := "loop.example/g03414/laws.FnExactWriteScript", spec := "fnExactWriteScript", apart := false, narrowed := true }
def FnExactWriteScriptUptoSaid : Prop := fnExactWriteScriptUptoRow.holds Try.pinned (OpenSpec.upto fnExactWriteScriptSpec)

/-- 'laws.FnExactPruneKeymap', WHERE WHAT IT READS IS OF BULK AT MOST 1048576: true; the input reads as it did. -/
def fnExactPruneKeymapUptoRow : OpenClaim := { program := "ytnlnkfkpmcpbdaa", sum := "5db0cd59f815bc055af7331eea33c1a2f8021528946ae681e69121ce0ee466fc", func := "loop.example/g03414/laws.FnExactPruneKeymap", spec := "fnExactPruneKeymap", apart := false, narrowed := true }
def FnExactPruneKeymapUptoSaid : Prop := fnExactPruneKeymapUptoRow.holds Try.pinned (OpenSpec.upto fnExactPruneKeymapSpec)

/-- 'laws.FnExactKeymapFrom', WHERE WHAT IT READS IS OF BULK AT MOST 1048576: true; the input reads as it did. -/
def fnExactKeymapFromUptoRow : OpenClaim := { program := "ytnlnkfkpmcpbdaa", sum := "5db0cd59f815bc055af7331eea33c1a2f8021528946ae681e69121ce0ee466fc", func := "loop.example/g03414/laws.FnExactKeymapFrom", spec := "fnExactKeymapFrom", apart := false, narrowed := true }
def FnExactKeymapFromUptoSaid : Prop := fnExactKeymapFromUptoRow.holds Try.pinned (OpenSpec.upto fnExactKeymapFromSpec)

/-- 'laws.FnExactAnswerPacket', WHERE WHAT IT READS IS OF BULK AT MOST 1048576: true; the input reads as it did. -/
def fnExactAnswerPacketUptoRow : OpenClaim := { program := "ytnlnkfkpmcpbdaa", sum := "5db0cd59f815bc055af7331eea33c1a2f8021528946ae681e69121ce0ee466fc", func := "loop.example/g03414/laws.FnExactAnswerPacket", spec := "fnExactAnswerPacket", apart := false, narrowed := true }
def FnExactAnswerPacketUptoSaid : Prop := fnExactAnswerPacketUptoRow.holds Try.pinned (OpenSpec.upto fnExactAnswerPacketSpec)

/-- 'laws.FnExactPlayPackets', WHERE WHAT IT READS IS OF BULK AT MOST 1048576: true; the input reads as it did. -/
def fnExactPlayPacketsUptoRow : OpenClaim := { program := "ytnlnkfkpmcpbdaa", sum := "5db0cd59f815bc055af7331eea33c1a2f8021528946ae681e69121ce0ee466fc", func := "loop.example/g03414/laws.FnExactPlayPackets", spec := "fnExactPlayPackets", apart := false, narrowed := true }
def FnExactPlayPacketsUptoSaid : Prop := fnExactPlayPacketsUptoRow.holds Try.pinned (OpenSpec.upto fnExactPlayPacketsSpec)

end Rows
end Go.Proofs.Ytnlnkfkpmcpbdaa
