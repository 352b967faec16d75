/-
  DERIVED. GIVEN WITH THE SEED: THE CARDS: each row of YtdgeblmmmffgfaaGreatDoorRows.lean that lists a variable, with what it lists TIED to the program's text (the seventh form; the later family's looks); each row that meets fmt, with fmt's text TOLD by the authors' own Lean function (tested against real Go, not proved from fmt's source: count such statements apart). THE CARD IS WHAT COUNTS. Prove the row's statement (the work); the ties are given (YtdgeblmmmffgfaaGreatDoorTie.lean); close each card by the builder's one call (the guide's Derived/Test/ToyasCard.lean, 'card_holds'). Laid BY PROGRAM, IN A SANDBOX (cutbox-door.mjs). By AI agents, Wed Nov 11 2026. No macro, syntax, notation, axiom, sorry.
-/
import Derived.Test.YtdgeblmmmffgfaaGreatDoorRows
import GoSem.ClaimSeven
namespace Go.Proofs.YtdgeblmmmffgfaaGreatDoor
namespace Rows

/-- THE TIED CARD OF 'laws.FnExactNewSession'. -/
def fnExactNewSessionCard : Claim7 := { stood := { row := fnExactNewSessionRow, standIns := [], harness := (true, "a5296193ce5a1bfd2e656a0aab81d6f0b6b621fc8394df496f9d443c454c6a1f"), looks := true }, kinds := [], alts := [], laidByText := true, laidKinds := [.data, .data, .data, .data, .sentinel, .sentinel, .pinned], laidTests := true, laidLooks := .later }
def FnExactNewSessionCardSaid : Prop := Claim7.holds Tryz.pinned (.plain (OpenSpec.ofChange fnExactNewSessionSpec)) fnExactNewSessionCard

/-- THE TIED CARD OF 'laws.FnSent'. -/
def fnSentCard : Claim7 := { stood := { row := fnSentRow, standIns := [], harness := (true, "a5296193ce5a1bfd2e656a0aab81d6f0b6b621fc8394df496f9d443c454c6a1f"), looks := true }, kinds := [], alts := [], laidByText := true, laidKinds := [.data, .data, .data, .data, .pinned], laidTests := true, laidLooks := .later }
def FnSentCardSaid : Prop := Claim7.holds Tryz.pinned (.plain (OpenSpec.ofChange fnSentSpec)) fnSentCard

/-- THE SECOND FORM's CARD OF 'laws.FnExactNewSession'. -/
def fnExactNewSessionUptoCard : Claim7 := { stood := { row := fnExactNewSessionUptoRow, standIns := [], harness := (true, "a5296193ce5a1bfd2e656a0aab81d6f0b6b621fc8394df496f9d443c454c6a1f"), looks := true }, kinds := [], alts := [], laidByText := true, laidKinds := [.data, .data, .data, .data, .sentinel, .sentinel, .pinned], laidTests := true, laidLooks := .later }
def FnExactNewSessionUptoCardSaid : Prop := Claim7.holds Tryz.pinned (.plain (OpenSpec.upto fnExactNewSessionSpec)) fnExactNewSessionUptoCard

/-- THE SECOND FORM's CARD OF 'laws.FnSent'. -/
def fnSentUptoCard : Claim7 := { stood := { row := fnSentUptoRow, standIns := [], harness := (true, "a5296193ce5a1bfd2e656a0aab81d6f0b6b621fc8394df496f9d443c454c6a1f"), looks := true }, kinds := [], alts := [], laidByText := true, laidKinds := [.data, .data, .data, .data, .pinned], laidTests := true, laidLooks := .later }
def FnSentUptoCardSaid : Prop := Claim7.holds Tryz.pinned (.plain (OpenSpec.upto fnSentSpec)) fnSentUptoCard
end Rows
end Go.Proofs.YtdgeblmmmffgfaaGreatDoor
