/-
  DERIVED. GIVEN WITH THE SEED: THE CARDS: each row of YtenekdhofnoalaaDoorRows.lean that lists a variable, with what it lists TIED to the program's text (the seventh form; the later family's looks); each row that meets fmt, with fmt's text TOLD by the authors' own Lean function (tested against real Go, not proved from fmt's source: count such statements apart). THE CARD IS WHAT COUNTS. Prove the row's statement (the work); the ties are given (YtenekdhofnoalaaDoorTie.lean); close each card by the builder's one call (the guide's Derived/Test/ToyasCard.lean, 'card_holds'). Laid BY PROGRAM, IN A SANDBOX (cutbox-door.mjs). By AI agents, Wed Nov 11 2026. No macro, syntax, notation, axiom, sorry.
-/
import Derived.Test.YtenekdhofnoalaaDoorRows
import GoSem.ClaimSeven
namespace Go.Proofs.YtenekdhofnoalaaDoor
namespace Rows

/-- THE TIED CARD OF 'laws.FnExactCanType'. -/
def fnExactCanTypeCard : Claim7 := { stood := { row := fnExactCanTypeRow, standIns := [], harness := (true, "692b43fb85621d98ec08d82fc3dccfe64dc9c31333391d4e64e0996cd6ec3af1"), looks := false }, kinds := [], alts := [], laidByText := true, laidKinds := [.data, .pinned], laidTests := true, laidLooks := .later }
def FnExactCanTypeCardSaid : Prop := Claim7.holds Tryd.pinned (.plain (OpenSpec.ofChange fnExactCanTypeSpec)) fnExactCanTypeCard

/-- THE TIED CARD OF 'laws.FnExactEventsFor'. -/
def fnExactEventsForCard : Claim7 := { stood := { row := fnExactEventsForRow, standIns := [], harness := (true, "692b43fb85621d98ec08d82fc3dccfe64dc9c31333391d4e64e0996cd6ec3af1"), looks := false }, kinds := [], alts := [], laidByText := true, laidKinds := [.data, .pinned], laidTests := true, laidLooks := .later }
def FnExactEventsForCardSaid : Prop := Claim7.holds Tryd.pinned (.plain (OpenSpec.ofChange fnExactEventsForSpec)) fnExactEventsForCard

/-- THE TIED CARD OF 'laws.FnExactFormatSent'. -/
def fnExactFormatSentCard : Claim7 := { stood := { row := fnExactFormatSentRow, standIns := [], harness := (true, "692b43fb85621d98ec08d82fc3dccfe64dc9c31333391d4e64e0996cd6ec3af1"), looks := false }, kinds := [], alts := [], laidByText := true, laidKinds := [.data, .data, .data, .data, .pinned], laidTests := true, laidLooks := .later }
def FnExactFormatSentCardSaid : Prop := Claim7.holds Tryd.pinned (.plain (OpenSpec.ofChange fnExactFormatSentSpec)) fnExactFormatSentCard

/-- THE SECOND FORM's CARD OF 'laws.FnExactCanType'. -/
def fnExactCanTypeUptoCard : Claim7 := { stood := { row := fnExactCanTypeUptoRow, standIns := [], harness := (true, "692b43fb85621d98ec08d82fc3dccfe64dc9c31333391d4e64e0996cd6ec3af1"), looks := false }, kinds := [], alts := [], laidByText := true, laidKinds := [.data, .pinned], laidTests := true, laidLooks := .later }
def FnExactCanTypeUptoCardSaid : Prop := Claim7.holds Tryd.pinned (.plain (OpenSpec.upto fnExactCanTypeSpec)) fnExactCanTypeUptoCard

/-- THE SECOND FORM's CARD OF 'laws.FnExactEventsFor'. -/
def fnExactEventsForUptoCard : Claim7 := { stood := { row := fnExactEventsForUptoRow, standIns := [], harness := (true, "692b43fb85621d98ec08d82fc3dccfe64dc9c31333391d4e64e0996cd6ec3af1"), looks := false }, kinds := [], alts := [], laidByText := true, laidKinds := [.data, .pinned], laidTests := true, laidLooks := .later }
def FnExactEventsForUptoCardSaid : Prop := Claim7.holds Tryd.pinned (.plain (OpenSpec.upto fnExactEventsForSpec)) fnExactEventsForUptoCard

/-- THE SECOND FORM's CARD OF 'laws.FnExactFormatSent'. -/
def fnExactFormatSentUptoCard : Claim7 := { stood := { row := fnExactFormatSentUptoRow, standIns := [], harness := (true, "692b43fb85621d98ec08d82fc3dccfe64dc9c31333391d4e64e0996cd6ec3af1"), looks := false }, kinds := [], alts := [], laidByText := true, laidKinds := [.data, .data, .data, .data, .pinned], laidTests := true, laidLooks := .later }
def FnExactFormatSentUptoCardSaid : Prop := Claim7.holds Tryd.pinned (.plain (OpenSpec.upto fnExactFormatSentSpec)) fnExactFormatSentUptoCard
end Rows
end Go.Proofs.YtenekdhofnoalaaDoor
