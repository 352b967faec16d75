/-
  DERIVED. GIVEN WITH THE SEED: THE CARDS: each row of YteooipbgmfmhfaaGreatDoorRows.lean that lists a variable, with what it lists TIED to the program's text (the seventh form; the later family's looks); each row that meets fmt, with fmt's text TOLD by the authors' own Lean function (tested against real Go, not proved from fmt's source: count such statements apart). THE CARD IS WHAT COUNTS. Prove the row's statement (the work); the ties are given (YteooipbgmfmhfaaGreatDoorTie.lean); close each card by the builder's one call (the guide's Derived/Test/ToyasCard.lean, 'card_holds'). Laid BY PROGRAM, IN A SANDBOX (cutbox-door.mjs). By AI agents, Wed Nov 11 2026. No macro, syntax, notation, axiom, sorry.
-/
import Derived.Test.YteooipbgmfmhfaaGreatDoorRows
import GoSem.ClaimSeven
namespace Go.Proofs.YteooipbgmfmhfaaGreatDoor
namespace Rows

/-- THE TIED CARD OF 'laws.FnAlike'. -/
def fnAlikeCard : Claim7 := { stood := { row := fnAlikeRow, standIns := [], harness := (true, "3bb214f9f8eba14cd51e4e62b5960825a4891918c3c39f70b6098ec1f02f2520"), looks := true }, kinds := [], alts := [], laidByText := true, laidKinds := [.data, .pinned], laidTests := true, laidLooks := .later }
def FnAlikeCardSaid : Prop := Claim7.holds Tryz.pinned (.plain (OpenSpec.ofChange fnAlikeSpec)) fnAlikeCard

/-- THE TIED CARD OF 'laws.FnExactAreAlike'. -/
def fnExactAreAlikeCard : Claim7 := { stood := { row := fnExactAreAlikeRow, standIns := [], harness := (true, "3bb214f9f8eba14cd51e4e62b5960825a4891918c3c39f70b6098ec1f02f2520"), looks := true }, kinds := [], alts := [], laidByText := true, laidKinds := [.data, .pinned], laidTests := true, laidLooks := .later }
def FnExactAreAlikeCardSaid : Prop := Claim7.holds Tryz.pinned (.plain (OpenSpec.ofChange fnExactAreAlikeSpec)) fnExactAreAlikeCard

/-- THE TIED CARD OF 'laws.FnExactDifferenceOf'. -/
def fnExactDifferenceOfCard : Claim7 := { stood := { row := fnExactDifferenceOfRow, standIns := [], harness := (true, "3bb214f9f8eba14cd51e4e62b5960825a4891918c3c39f70b6098ec1f02f2520"), looks := true }, kinds := [], alts := [], laidByText := true, laidKinds := [.data, .pinned], laidTests := true, laidLooks := .later }
def FnExactDifferenceOfCardSaid : Prop := Claim7.holds Tryz.pinned (.plain (OpenSpec.ofChange fnExactDifferenceOfSpec)) fnExactDifferenceOfCard

/-- THE TIED CARD OF 'laws.FnExactRunLines'. -/
def fnExactRunLinesCard : Claim7 := { stood := { row := fnExactRunLinesRow, standIns := [], harness := (true, "3bb214f9f8eba14cd51e4e62b5960825a4891918c3c39f70b6098ec1f02f2520"), looks := true }, kinds := [], alts := [], laidByText := true, laidKinds := [.data, .data, .data, .data, .sentinel, .sentinel, .pinned], laidTests := true, laidLooks := .later }
def FnExactRunLinesCardSaid : Prop := Claim7.holds Tryz.pinned (.plain (OpenSpec.ofChange fnExactRunLinesSpec)) fnExactRunLinesCard

/-- THE TIED CARD OF 'laws.FnExactDoLine'. -/
def fnExactDoLineCard : Claim7 := { stood := { row := fnExactDoLineRow, standIns := [], harness := (true, "3bb214f9f8eba14cd51e4e62b5960825a4891918c3c39f70b6098ec1f02f2520"), looks := true }, kinds := [], alts := [], laidByText := true, laidKinds := [.data, .data, .data, .data, .sentinel, .sentinel, .pinned], laidTests := true, laidLooks := .later }
def FnExactDoLineCardSaid : Prop := Claim7.holds Tryz.pinned (.plain (OpenSpec.ofChange fnExactDoLineSpec)) fnExactDoLineCard

/-- THE SECOND FORM's CARD OF 'laws.FnAlike'. -/
def fnAlikeUptoCard : Claim7 := { stood := { row := fnAlikeUptoRow, standIns := [], harness := (true, "3bb214f9f8eba14cd51e4e62b5960825a4891918c3c39f70b6098ec1f02f2520"), looks := true }, kinds := [], alts := [], laidByText := true, laidKinds := [.data, .pinned], laidTests := true, laidLooks := .later }
def FnAlikeUptoCardSaid : Prop := Claim7.holds Tryz.pinned (.plain (OpenSpec.upto fnAlikeSpec)) fnAlikeUptoCard

/-- THE SECOND FORM's CARD OF 'laws.FnExactAreAlike'. -/
def fnExactAreAlikeUptoCard : Claim7 := { stood := { row := fnExactAreAlikeUptoRow, standIns := [], harness := (true, "3bb214f9f8eba14cd51e4e62b5960825a4891918c3c39f70b6098ec1f02f2520"), looks := true }, kinds := [], alts := [], laidByText := true, laidKinds := [.data, .pinned], laidTests := true, laidLooks := .later }
def FnExactAreAlikeUptoCardSaid : Prop := Claim7.holds Tryz.pinned (.plain (OpenSpec.upto fnExactAreAlikeSpec)) fnExactAreAlikeUptoCard

/-- THE SECOND FORM's CARD OF 'laws.FnExactDifferenceOf'. -/
def fnExactDifferenceOfUptoCard : Claim7 := { stood := { row := fnExactDifferenceOfUptoRow, standIns := [], harness := (true, "3bb214f9f8eba14cd51e4e62b5960825a4891918c3c39f70b6098ec1f02f2520"), looks := true }, kinds := [], alts := [], laidByText := true, laidKinds := [.data, .pinned], laidTests := true, laidLooks := .later }
def FnExactDifferenceOfUptoCardSaid : Prop := Claim7.holds Tryz.pinned (.plain (OpenSpec.upto fnExactDifferenceOfSpec)) fnExactDifferenceOfUptoCard

/-- THE SECOND FORM's CARD OF 'laws.FnExactRunLines'. -/
def fnExactRunLinesUptoCard : Claim7 := { stood := { row := fnExactRunLinesUptoRow, standIns := [], harness := (true, "3bb214f9f8eba14cd51e4e62b5960825a4891918c3c39f70b6098ec1f02f2520"), looks := true }, kinds := [], alts := [], laidByText := true, laidKinds := [.data, .data, .data, .data, .sentinel, .sentinel, .pinned], laidTests := true, laidLooks := .later }
def FnExactRunLinesUptoCardSaid : Prop := Claim7.holds Tryz.pinned (.plain (OpenSpec.upto fnExactRunLinesSpec)) fnExactRunLinesUptoCard

/-- THE SECOND FORM's CARD OF 'laws.FnExactDoLine'. -/
def fnExactDoLineUptoCard : Claim7 := { stood := { row := fnExactDoLineUptoRow, standIns := [], harness := (true, "3bb214f9f8eba14cd51e4e62b5960825a4891918c3c39f70b6098ec1f02f2520"), looks := true }, kinds := [], alts := [], laidByText := true, laidKinds := [.data, .data, .data, .data, .sentinel, .sentinel, .pinned], laidTests := true, laidLooks := .later }
def FnExactDoLineUptoCardSaid : Prop := Claim7.holds Tryz.pinned (.plain (OpenSpec.upto fnExactDoLineSpec)) fnExactDoLineUptoCard
end Rows
end Go.Proofs.YteooipbgmfmhfaaGreatDoor
