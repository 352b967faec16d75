/-
  DERIVED. GIVEN WITH THE SEED: THE CARDS: each row of YtngamcnbdgeikaaGreatDoorRows.lean that lists a variable, with what it lists TIED to the program's text (the seventh form; the later family's looks); each row that meets fmt, with fmt's text TOLD by the authors' own Lean function (tested against real Go, not proved from fmt's source: count such statements apart). THE CARD IS WHAT COUNTS. Prove the row's statement (the work); the ties are given (YtngamcnbdgeikaaGreatDoorTie.lean); close each card by the builder's one call (the guide's Derived/Test/ToyasCard.lean, 'card_holds'). Laid BY PROGRAM, IN A SANDBOX (cutbox-door.mjs). By AI agents, Wed Nov 11 2026. No macro, syntax, notation, axiom, sorry.
-/
import Derived.Test.YtngamcnbdgeikaaGreatDoorRows
import GoSem.ClaimSeven
namespace Go.Proofs.YtngamcnbdgeikaaGreatDoor
namespace Rows

/-- THE TIED CARD OF 'laws.FnExactTypeText'. -/
def fnExactTypeTextCard : Claim7 := { stood := { row := fnExactTypeTextRow, standIns := [], harness := (true, "749512aabeb212fddcbc8b40054317deffb7c640f3a73da5ea1bbf9a8f71d356"), looks := false }, kinds := [], alts := [], laidByText := true, laidKinds := [.data, .pinned], laidTests := true, laidLooks := .later }
def FnExactTypeTextCardSaid : Prop := Claim7.holds Tryz.pinned (.plain (OpenSpec.ofChange fnExactTypeTextSpec)) fnExactTypeTextCard

/-- THE SECOND FORM's CARD OF 'laws.FnExactTypeText'. -/
def fnExactTypeTextUptoCard : Claim7 := { stood := { row := fnExactTypeTextUptoRow, standIns := [], harness := (true, "749512aabeb212fddcbc8b40054317deffb7c640f3a73da5ea1bbf9a8f71d356"), looks := false }, kinds := [], alts := [], laidByText := true, laidKinds := [.data, .pinned], laidTests := true, laidLooks := .later }
def FnExactTypeTextUptoCardSaid : Prop := Claim7.holds Tryz.pinned (.plain (OpenSpec.upto fnExactTypeTextSpec)) fnExactTypeTextUptoCard
end Rows
end Go.Proofs.YtngamcnbdgeikaaGreatDoor
