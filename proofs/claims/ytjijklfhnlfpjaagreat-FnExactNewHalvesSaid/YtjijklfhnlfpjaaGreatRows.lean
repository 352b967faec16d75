/-
  No cell of these rows narrows 'for every input' (looked for: loops, veiled, ifaces, maps, wideKeys, modest, calm, conditions, laid).
  DERIVED. THE GIVEN ROWS OF THIS SEAT. 4 by the template 'for every input the law returns true; each argument reads behind the call as it read before'; 0 by the template 'total and deterministic' (their statements: YtjijklfhnlfpjaaGreatTotals.lean).
  GIVEN WITH THE SEED: the statements are not yours to turn. If you find one false, say at which input.
  Laid BY PROGRAM, IN A SANDBOX (cutbox-rows.mjs): the forced cells as the released guide's own fill.sh prints them over the translation 5336642c5a7f7bff… (all of the seat's roots in one cut). By AI agents, Wed Nov 11 2026. No macro, syntax, notation, axiom, sorry.
-/
import Derived.Test.YtjijklfhnlfpjaaGreatChecked
import GoSem.Claim
import GoSem.ClaimJoined
import GoSem.ClaimMapViews
import Derived.JoinedTies
import Derived.KernelRfl
namespace Go.Proofs.YtjijklfhnlfpjaaGreat
/- THE CELL 'sum', in the pinned program and in every row, IS THE sha256 OF THE DUMP (.gsa) THAT YtjijklfhnlfpjaaGreatProg.lean LOADS. Nothing in Lean hashes anything: it is a label: what it is worth is what the hold of that sum in a sandbox is worth. -/
noncomputable def Tryz.pinned : Pinned := { name := "ytjijklfhnlfpjaagreat", sum := "5336642c5a7f7bffdc079436a19e344ab770580b87ad9b6f4892ea0d703476e5", checked := Tryz.checked }
namespace Rows
def none {H : Type} : Left H := { results := [], args := [] }

/-- 'laws.FnExactIsBoard': WHATEVER THE INPUT: true; the input reads as it did. -/
def fnExactIsBoardSpec : ChangeSpec := { name := "fnExactIsBoard", fn := fun _ => fun
  | [d] => { results := [.lit (.bool true)], args := [d] }
  | _ => none }
def fnExactIsBoardRow : OpenClaim := { program := "ytjijklfhnlfpjaagreat", sum := "5336642c5a7f7bffdc079436a19e344ab770580b87ad9b6f4892ea0d703476e5", func := "loop.example/g03414/laws.FnExactIsBoard", spec := "fnExactIsBoard", apart := false }
def FnExactIsBoardSaid : Prop := fnExactIsBoardRow.holds Tryz.pinned (OpenSpec.ofChange fnExactIsBoardSpec)

/-- ITS FALSE NEIGHBOUR: 'it returns false'. Refute it at one input. -/
def fnExactIsBoardWrong : ChangeSpec := { name := "fnExactIsBoard", fn := fun _ => fun
  | [d] => { results := [.lit (.bool false)], args := [d] }
  | _ => none }
def FnExactIsBoardWrongFalsely : Prop := fnExactIsBoardRow.holds Tryz.pinned (OpenSpec.ofChange fnExactIsBoardWrong)

/-- 'laws.FnExactIsHalves': WHATEVER THE INPUT: true; the input reads as it did. -/
def fnExactIsHalvesSpec : ChangeSpec := { name := "fnExactIsHalves", fn := fun _ => fun
  | [d] => { results := [.lit (.bool true)], args := [d] }
  | _ => none }
def fnExactIsHalvesRow : OpenClaim := { program := "ytjijklfhnlfpjaagreat", sum := "5336642c5a7f7bffdc079436a19e344ab770580b87ad9b6f4892ea0d703476e5", func := "loop.example/g03414/laws.FnExactIsHalves", spec := "fnExactIsHalves", apart := false }
def FnExactIsHalvesSaid : Prop := fnExactIsHalvesRow.holds Tryz.pinned (OpenSpec.ofChange fnExactIsHalvesSpec)

/-- ITS FALSE NEIGHBOUR: 'it returns false'. Refute it at one input. -/
def fnExactIsHalvesWrong : ChangeSpec := { name := "fnExactIsHalves", fn := fun _ => fun
  | [d] => { results := [.lit (.bool false)], args := [d] }
  | _ => none }
def FnExactIsHalvesWrongFalsely : Prop := fnExactIsHalvesRow.holds Tryz.pinned (OpenSpec.ofChange fnExactIsHalvesWrong)

/-- 'laws.FnExactNewBoard': WHATEVER THE INPUT: true; the input reads as it did. -/
def fnExactNewBoardSpec : ChangeSpec := { name := "fnExactNewBoard", fn := fun _ => fun
  | [d1, d2, d3, d4] => { results := [.lit (.bool true)], args := [d1, d2, d3, d4] }
  | _ => none }
def fnExactNewBoardRow : OpenClaim := { program := "ytjijklfhnlfpjaagreat", sum := "5336642c5a7f7bffdc079436a19e344ab770580b87ad9b6f4892ea0d703476e5", func := "loop.example/g03414/laws.FnExactNewBoard", spec := "fnExactNewBoard", apart := false }
def FnExactNewBoardSaid : Prop := fnExactNewBoardRow.holds Tryz.pinned (OpenSpec.ofChange fnExactNewBoardSpec)

/-- ITS FALSE NEIGHBOUR: 'it returns false'. Refute it at one input. -/
def fnExactNewBoardWrong : ChangeSpec := { name := "fnExactNewBoard", fn := fun _ => fun
  | [d1, d2, d3, d4] => { results := [.lit (.bool false)], args := [d1, d2, d3, d4] }
  | _ => none }
def FnExactNewBoardWrongFalsely : Prop := fnExactNewBoardRow.holds Tryz.pinned (OpenSpec.ofChange fnExactNewBoardWrong)

/-- 'laws.FnExactNewHalves': WHATEVER THE INPUT: true; the input reads as it did. -/
def fnExactNewHalvesSpec : ChangeSpec := { name := "fnExactNewHalves", fn := fun _ => fun
  | [d] => { results := [.lit (.bool true)], args := [d] }
  | _ => none }
def fnExactNewHalvesRow : OpenClaim := { program := "ytjijklfhnlfpjaagreat", sum := "5336642c5a7f7bffdc079436a19e344ab770580b87ad9b6f4892ea0d703476e5", func := "loop.example/g03414/laws.FnExactNewHalves", spec := "fnExactNewHalves", apart := false }
def FnExactNewHalvesSaid : Prop := fnExactNewHalvesRow.holds Tryz.pinned (OpenSpec.ofChange fnExactNewHalvesSpec)

/-- ITS FALSE NEIGHBOUR: 'it returns false'. Refute it at one input. -/
def fnExactNewHalvesWrong : ChangeSpec := { name := "fnExactNewHalves", fn := fun _ => fun
  | [d] => { results := [.lit (.bool false)], args := [d] }
  | _ => none }
def FnExactNewHalvesWrongFalsely : Prop := fnExactNewHalvesRow.holds Tryz.pinned (OpenSpec.ofChange fnExactNewHalvesWrong)

/- THE SECOND FORM. 'bulk': how many values and letters a reading holds, each counted each time it is reached (what is shared counts as often as it is met; a slice's spare places count too). A statement '..UptoSaid' is the law's where the arguments, and the package variables that the reading takes, are together of bulk at most 1048576: NARROWER than '..Said'. Prove '..Said' where nothing that the law and all that it calls make is longer than what came in: it says more and counts as full. Else prove '..UptoSaid'. A law counts once. -/
mutual
def uptoBulk {H : Type} : DataW H → Nat
  | .lit (.string bytes) => bytes.length + 1
  | .lit _ => 1
  | .nil => 1
  | .ptr d => uptoBulk d + 1
  | .slice elems spare => uptoBulkAll elems + uptoBulkAll spare + 1
  | .agg parts => uptoBulkAll parts + 1
  | .iface _ d => uptoBulk d + 1
  | .map entries => uptoBulkEntries entries + 1
  | .held _ => 1
def uptoBulkAll {H : Type} : List (DataW H) → Nat
  | [] => 0
  | d :: r => uptoBulk d + uptoBulkAll r
def uptoBulkEntries {H : Type} : List (Lit × DataW H) → Nat
  | [] => 0
  | x :: r => uptoBulkEntry x + uptoBulkEntries r
def uptoBulkEntry {H : Type} : Lit × DataW H → Nat
  | (.string bytes, d) => bytes.length + uptoBulk d + 1
  | (_, d) => uptoBulk d + 1
 end
def uptoSmall : (H : Type) → List (DataW H) → Bool := fun _ ds => decide (uptoBulkAll ds ≤ 1048576)
def OpenSpec.upto (s : _root_.Go.ChangeSpec) : _root_.Go.OpenSpec := { _root_.Go.OpenSpec.ofChange s with cond := some uptoSmall }

/-- 'laws.FnExactIsBoard', WHERE WHAT IT READS IS OF BULK AT MOST 1048576: true; the input reads as it did. -/
def fnExactIsBoardUptoRow : OpenClaim := { program := "ytjijklfhnlfpjaagreat", sum := "5336642c5a7f7bffdc079436a19e344ab770580b87ad9b6f4892ea0d703476e5", func := "loop.example/g03414/laws.FnExactIsBoard", spec := "fnExactIsBoard", apart := false, narrowed := true }
def FnExactIsBoardUptoSaid : Prop := fnExactIsBoardUptoRow.holds Tryz.pinned (OpenSpec.upto fnExactIsBoardSpec)

/-- 'laws.FnExactIsHalves', WHERE WHAT IT READS IS OF BULK AT MOST 1048576: true; the input reads as it did. -/
def fnExactIsHalvesUptoRow : OpenClaim := { program := "ytjijklfhnlfpjaagreat", sum := "5336642c5a7f7bffdc079436a19e344ab770580b87ad9b6f4892ea0d703476e5", func := "loop.example/g03414/laws.FnExactIsHalves", spec := "fnExactIsHalves", apart := false, narrowed := true }
def FnExactIsHalvesUptoSaid : Prop := fnExactIsHalvesUptoRow.holds Tryz.pinned (OpenSpec.upto fnExactIsHalvesSpec)

/-- 'laws.FnExactNewBoard', WHERE WHAT IT READS IS OF BULK AT MOST 1048576: true; the input reads as it did. -/
def fnExactNewBoardUptoRow : OpenClaim := { program := "ytjijklfhnlfpjaagreat", sum := "5336642c5a7f7bffdc079436a19e344ab770580b87ad9b6f4892ea0d703476e5", func := "loop.example/g03414/laws.FnExactNewBoard", spec := "fnExactNewBoard", apart := false, narrowed := true }
def FnExactNewBoardUptoSaid : Prop := fnExactNewBoardUptoRow.holds Tryz.pinned (OpenSpec.upto fnExactNewBoardSpec)

/-- 'laws.FnExactNewHalves', WHERE WHAT IT READS IS OF BULK AT MOST 1048576: true; the input reads as it did. -/
def fnExactNewHalvesUptoRow : OpenClaim := { program := "ytjijklfhnlfpjaagreat", sum := "5336642c5a7f7bffdc079436a19e344ab770580b87ad9b6f4892ea0d703476e5", func := "loop.example/g03414/laws.FnExactNewHalves", spec := "fnExactNewHalves", apart := false, narrowed := true }
def FnExactNewHalvesUptoSaid : Prop := fnExactNewHalvesUptoRow.holds Tryz.pinned (OpenSpec.upto fnExactNewHalvesSpec)

end Rows
end Go.Proofs.YtjijklfhnlfpjaaGreat
