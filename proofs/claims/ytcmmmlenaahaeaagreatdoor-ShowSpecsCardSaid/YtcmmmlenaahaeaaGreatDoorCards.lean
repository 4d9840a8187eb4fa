/-
  DERIVED. GIVEN WITH THE SEED: THE CARDS: each row of YtcmmmlenaahaeaaGreatDoorRows.lean that lists a variable, with what it lists TIED to the program's text (the seventh form; the later family's looks); each row that meets fmt, with fmt's text TOLD by the authors' own Lean function (tested against real Go, not proved from fmt's source: count such statements apart). THE CARD IS WHAT COUNTS. Prove the row's statement (the work); the ties are given (YtcmmmlenaahaeaaGreatDoorTie.lean); close each card by the builder's one call (the guide's Derived/Test/ToyasCard.lean, 'card_holds'). Laid BY PROGRAM, IN A SANDBOX (cutbox-door.mjs). By AI agents, Wed Nov 11 2026. No macro, syntax, notation, axiom, sorry.
-/
import Derived.Test.YtcmmmlenaahaeaaGreatDoorRows
import GoSem.ClaimSeven
namespace Go.Proofs.YtcmmmlenaahaeaaGreatDoor
namespace Rows

/-- THE TIED CARD OF 'complinelaw20.ShowFields'. -/
def showFieldsCard : Claim7 := { stood := { row := showFieldsRow, standIns := [], harness := (true, "0e02e29943c8768ac7518ed61124594a827b7e5f54e3f3dbf2a00ae1867117c0"), looks := true }, kinds := [], alts := [], laidByText := true, laidKinds := [.data, .data, .data, .data, .handle, .pinned], laidTests := true, laidLooks := .later }
def ShowFieldsCardSaid : Prop := Claim7.holds Tryz.pinned (.plain (OpenSpec.ofChange showFieldsSpec)) showFieldsCard

/-- THE TIED CARD OF 'complinelaw20.ShowSpecs'. -/
def showSpecsCard : Claim7 := { stood := { row := showSpecsRow, standIns := [], harness := (true, "0e02e29943c8768ac7518ed61124594a827b7e5f54e3f3dbf2a00ae1867117c0"), looks := true }, kinds := [], alts := [], laidByText := true, laidKinds := [.data, .data, .data, .data, .handle, .pinned], laidTests := true, laidLooks := .later }
def ShowSpecsCardSaid : Prop := Claim7.holds Tryz.pinned (.plain (OpenSpec.ofChange showSpecsSpec)) showSpecsCard

/-- THE TIED CARD OF 'complinelaw20.ShowBack'. -/
def showBackCard : Claim7 := { stood := { row := showBackRow, standIns := [], harness := (true, "0e02e29943c8768ac7518ed61124594a827b7e5f54e3f3dbf2a00ae1867117c0"), looks := true }, kinds := [], alts := [], laidByText := true, laidKinds := [.data, .data, .data, .data, .handle, .pinned], laidTests := true, laidLooks := .later }
def ShowBackCardSaid : Prop := Claim7.holds Tryz.pinned (.plain (OpenSpec.ofChange showBackSpec)) showBackCard

/-- THE TIED CARD OF 'complinelaw20.ShowTwice'. -/
def showTwiceCard : Claim7 := { stood := { row := showTwiceRow, standIns := [], harness := (true, "0e02e29943c8768ac7518ed61124594a827b7e5f54e3f3dbf2a00ae1867117c0"), looks := true }, kinds := [], alts := [], laidByText := true, laidKinds := [.data, .data, .data, .data, .handle, .pinned], laidTests := true, laidLooks := .later }
def ShowTwiceCardSaid : Prop := Claim7.holds Tryz.pinned (.plain (OpenSpec.ofChange showTwiceSpec)) showTwiceCard

/-- THE TIED CARD OF 'complinelaw20.ShowTurns'. -/
def showTurnsCard : Claim7 := { stood := { row := showTurnsRow, standIns := [], harness := (true, "0e02e29943c8768ac7518ed61124594a827b7e5f54e3f3dbf2a00ae1867117c0"), looks := true }, kinds := [], alts := [], laidByText := true, laidKinds := [.data, .data, .data, .data, .handle, .pinned], laidTests := true, laidLooks := .later }
def ShowTurnsCardSaid : Prop := Claim7.holds Tryz.pinned (.plain (OpenSpec.ofChange showTurnsSpec)) showTurnsCard

/-- THE TIED CARD OF 'complinelaw20.ShowApart'. -/
def showApartCard : Claim7 := { stood := { row := showApartRow, standIns := [], harness := (true, "0e02e29943c8768ac7518ed61124594a827b7e5f54e3f3dbf2a00ae1867117c0"), looks := true }, kinds := [], alts := [], laidByText := true, laidKinds := [.data, .data, .data, .data, .handle, .pinned], laidTests := true, laidLooks := .later }
def ShowApartCardSaid : Prop := Claim7.holds Tryz.pinned (.plain (OpenSpec.ofChange showApartSpec)) showApartCard

/-- THE SECOND FORM's CARD OF 'complinelaw20.ShowFields'. -/
def showFieldsUptoCard : Claim7 := { stood := { row := showFieldsUptoRow, standIns := [], harness := (true, "0e02e29943c8768ac7518ed61124594a827b7e5f54e3f3dbf2a00ae1867117c0"), looks := true }, kinds := [], alts := [], laidByText := true, laidKinds := [.data, .data, .data, .data, .handle, .pinned], laidTests := true, laidLooks := .later }
def ShowFieldsUptoCardSaid : Prop := Claim7.holds Tryz.pinned (.plain (OpenSpec.upto showFieldsSpec)) showFieldsUptoCard

/-- THE SECOND FORM's CARD OF 'complinelaw20.ShowSpecs'. -/
def showSpecsUptoCard : Claim7 := { stood := { row := showSpecsUptoRow, standIns := [], harness := (true, "0e02e29943c8768ac7518ed61124594a827b7e5f54e3f3dbf2a00ae1867117c0"), looks := true }, kinds := [], alts := [], laidByText := true, laidKinds := [.data, .data, .data, .data, .handle, .pinned], laidTests := true, laidLooks := .later }
def ShowSpecsUptoCardSaid : Prop := Claim7.holds Tryz.pinned (.plain (OpenSpec.upto showSpecsSpec)) showSpecsUptoCard

/-- THE SECOND FORM's CARD OF 'complinelaw20.ShowBack'. -/
def showBackUptoCard : Claim7 := { stood := { row := showBackUptoRow, standIns := [], harness := (true, "0e02e29943c8768ac7518ed61124594a827b7e5f54e3f3dbf2a00ae1867117c0"), looks := true }, kinds := [], alts := [], laidByText := true, laidKinds := [.data, .data, .data, .data, .handle, .pinned], laidTests := true, laidLooks := .later }
def ShowBackUptoCardSaid : Prop := Claim7.holds Tryz.pinned (.plain (OpenSpec.upto showBackSpec)) showBackUptoCard

/-- THE SECOND FORM's CARD OF 'complinelaw20.ShowTwice'. -/
def showTwiceUptoCard : Claim7 := { stood := { row := showTwiceUptoRow, standIns := [], harness := (true, "0e02e29943c8768ac7518ed61124594a827b7e5f54e3f3dbf2a00ae1867117c0"), looks := true }, kinds := [], alts := [], laidByText := true, laidKinds := [.data, .data, .data, .data, .handle, .pinned], laidTests := true, laidLooks := .later }
def ShowTwiceUptoCardSaid : Prop := Claim7.holds Tryz.pinned (.plain (OpenSpec.upto showTwiceSpec)) showTwiceUptoCard

/-- THE SECOND FORM's CARD OF 'complinelaw20.ShowTurns'. -/
def showTurnsUptoCard : Claim7 := { stood := { row := showTurnsUptoRow, standIns := [], harness := (true, "0e02e29943c8768ac7518ed61124594a827b7e5f54e3f3dbf2a00ae1867117c0"), looks := true }, kinds := [], alts := [], laidByText := true, laidKinds := [.data, .data, .data, .data, .handle, .pinned], laidTests := true, laidLooks := .later }
def ShowTurnsUptoCardSaid : Prop := Claim7.holds Tryz.pinned (.plain (OpenSpec.upto showTurnsSpec)) showTurnsUptoCard

/-- THE SECOND FORM's CARD OF 'complinelaw20.ShowApart'. -/
def showApartUptoCard : Claim7 := { stood := { row := showApartUptoRow, standIns := [], harness := (true, "0e02e29943c8768ac7518ed61124594a827b7e5f54e3f3dbf2a00ae1867117c0"), looks := true }, kinds := [], alts := [], laidByText := true, laidKinds := [.data, .data, .data, .data, .handle, .pinned], laidTests := true, laidLooks := .later }
def ShowApartUptoCardSaid : Prop := Claim7.holds Tryz.pinned (.plain (OpenSpec.upto showApartSpec)) showApartUptoCard
end Rows
end Go.Proofs.YtcmmmlenaahaeaaGreatDoor
