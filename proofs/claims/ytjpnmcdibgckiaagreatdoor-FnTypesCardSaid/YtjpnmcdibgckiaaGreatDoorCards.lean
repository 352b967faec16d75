/-
  DERIVED. GIVEN WITH THE SEED: THE CARDS: each row of YtjpnmcdibgckiaaGreatDoorRows.lean that lists a variable, with what it lists TIED to the program's text (the seventh form; the later family's looks); each row that meets fmt, with fmt's text TOLD by the authors' own Lean function (tested against real Go, not proved from fmt's source: count such statements apart). THE CARD IS WHAT COUNTS. Prove the row's statement (the work); the ties are given (YtjpnmcdibgckiaaGreatDoorTie.lean); close each card by the builder's one call (the guide's Derived/Test/ToyasCard.lean, 'card_holds'). Laid BY PROGRAM, IN A SANDBOX (cutbox-door.mjs). By AI agents, Wed Nov 11 2026. No macro, syntax, notation, axiom, sorry.
-/
import Derived.Test.YtjpnmcdibgckiaaGreatDoorRows
import GoSem.ClaimSeven
namespace Go.Proofs.YtjpnmcdibgckiaaGreatDoor
namespace Rows

/-- THE TIED CARD OF 'laws.FnExactTypeText'. -/
def fnExactTypeTextCard : Claim7 := { stood := { row := fnExactTypeTextRow, standIns := [], harness := (true, "f9362e1e0b5d9191afca329748231960981d49cfbac9d3e34ff8cf8299b4c392"), looks := false }, kinds := [], alts := [], laidByText := true, laidKinds := [.data, .pinned], laidTests := true, laidLooks := .later }
def FnExactTypeTextCardSaid : Prop := Claim7.holds Tryz.pinned (.plain (OpenSpec.ofChange fnExactTypeTextSpec)) fnExactTypeTextCard

/-- THE TIED CARD OF 'laws.FnTypes'. -/
def fnTypesCard : Claim7 := { stood := { row := fnTypesRow, standIns := [], harness := (true, "f9362e1e0b5d9191afca329748231960981d49cfbac9d3e34ff8cf8299b4c392"), looks := false }, kinds := [], alts := [], laidByText := true, laidKinds := [.data, .pinned], laidTests := true, laidLooks := .later }
def FnTypesCardSaid : Prop := Claim7.holds Tryz.pinned (.plain (OpenSpec.ofChange fnTypesSpec)) fnTypesCard

/-- THE SECOND FORM's CARD OF 'laws.FnExactTypeText'. -/
def fnExactTypeTextUptoCard : Claim7 := { stood := { row := fnExactTypeTextUptoRow, standIns := [], harness := (true, "f9362e1e0b5d9191afca329748231960981d49cfbac9d3e34ff8cf8299b4c392"), looks := false }, kinds := [], alts := [], laidByText := true, laidKinds := [.data, .pinned], laidTests := true, laidLooks := .later }
def FnExactTypeTextUptoCardSaid : Prop := Claim7.holds Tryz.pinned (.plain (OpenSpec.upto fnExactTypeTextSpec)) fnExactTypeTextUptoCard

/-- THE SECOND FORM's CARD OF 'laws.FnTypes'. -/
def fnTypesUptoCard : Claim7 := { stood := { row := fnTypesUptoRow, standIns := [], harness := (true, "f9362e1e0b5d9191afca329748231960981d49cfbac9d3e34ff8cf8299b4c392"), looks := false }, kinds := [], alts := [], laidByText := true, laidKinds := [.data, .pinned], laidTests := true, laidLooks := .later }
def FnTypesUptoCardSaid : Prop := Claim7.holds Tryz.pinned (.plain (OpenSpec.upto fnTypesSpec)) fnTypesUptoCard
end Rows
end Go.Proofs.YtjpnmcdibgckiaaGreatDoor
