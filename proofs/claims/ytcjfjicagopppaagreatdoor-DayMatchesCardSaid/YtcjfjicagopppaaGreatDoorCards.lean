/-
  DERIVED. GIVEN WITH THE SEED: THE CARDS: each row of YtcjfjicagopppaaGreatDoorRows.lean that lists a variable, with what it lists TIED to the program's text (the seventh form; the later family's looks); each row that meets fmt, with fmt's text TOLD by the authors' own Lean function (tested against real Go, not proved from fmt's source: count such statements apart). THE CARD IS WHAT COUNTS. Prove the row's statement (the work); the ties are given (YtcjfjicagopppaaGreatDoorTie.lean); close each card by the builder's one call (the guide's Derived/Test/ToyasCard.lean, 'card_holds'). Laid BY PROGRAM, IN A SANDBOX (cutbox-door.mjs). By AI agents, Wed Nov 11 2026. No macro, syntax, notation, axiom, sorry.
-/
import Derived.Test.YtcjfjicagopppaaGreatDoorRows
import GoSem.ClaimSeven
namespace Go.Proofs.YtcjfjicagopppaaGreatDoor
namespace Rows

/-- THE TIED CARD OF 'complinelaw21.DayMasks'. -/
def dayMasksCard : Claim7 := { stood := { row := dayMasksRow, standIns := [], harness := (true, "f1dbe00e9bd8626c96a5cbfa64fba70ed17652e5bf47d3fd49aa7cb115739cc0"), looks := true }, kinds := [], alts := [], laidByText := true, laidKinds := [.data, .handle, .pinned], laidTests := true, laidLooks := .later }
def DayMasksCardSaid : Prop := Claim7.holds Tryz.pinned (.plain (OpenSpec.ofChange dayMasksSpec)) dayMasksCard

/-- THE TIED CARD OF 'complinelaw21.DayMatches'. -/
def dayMatchesCard : Claim7 := { stood := { row := dayMatchesRow, standIns := [], harness := (true, "f1dbe00e9bd8626c96a5cbfa64fba70ed17652e5bf47d3fd49aa7cb115739cc0"), looks := true }, kinds := [], alts := [], laidByText := true, laidKinds := [.data, .handle, .pinned], laidTests := true, laidLooks := .later }
def DayMatchesCardSaid : Prop := Claim7.holds Tryz.pinned (.plain (OpenSpec.ofChange dayMatchesSpec)) dayMatchesCard

/-- THE TIED CARD OF 'complinelaw21.DayParts'. -/
def dayPartsCard : Claim7 := { stood := { row := dayPartsRow, standIns := [], harness := (true, "f1dbe00e9bd8626c96a5cbfa64fba70ed17652e5bf47d3fd49aa7cb115739cc0"), looks := true }, kinds := [], alts := [], laidByText := true, laidKinds := [.data, .handle, .pinned], laidTests := true, laidLooks := .later }
def DayPartsCardSaid : Prop := Claim7.holds Tryz.pinned (.plain (OpenSpec.ofChange dayPartsSpec)) dayPartsCard

/-- THE TIED CARD OF 'complinelaw21.DayMonths'. -/
def dayMonthsCard : Claim7 := { stood := { row := dayMonthsRow, standIns := [], harness := (true, "f1dbe00e9bd8626c96a5cbfa64fba70ed17652e5bf47d3fd49aa7cb115739cc0"), looks := true }, kinds := [], alts := [], laidByText := true, laidKinds := [.data, .handle, .pinned], laidTests := true, laidLooks := .later }
def DayMonthsCardSaid : Prop := Claim7.holds Tryz.pinned (.plain (OpenSpec.ofChange dayMonthsSpec)) dayMonthsCard

/-- THE TIED CARD OF 'complinelaw21.DayWeeks'. -/
def dayWeeksCard : Claim7 := { stood := { row := dayWeeksRow, standIns := [], harness := (true, "f1dbe00e9bd8626c96a5cbfa64fba70ed17652e5bf47d3fd49aa7cb115739cc0"), looks := true }, kinds := [], alts := [], laidByText := true, laidKinds := [.data, .handle, .pinned], laidTests := true, laidLooks := .later }
def DayWeeksCardSaid : Prop := Claim7.holds Tryz.pinned (.plain (OpenSpec.ofChange dayWeeksSpec)) dayWeeksCard

/-- THE TIED CARD OF 'complinelaw21.DayEither'. -/
def dayEitherCard : Claim7 := { stood := { row := dayEitherRow, standIns := [], harness := (true, "f1dbe00e9bd8626c96a5cbfa64fba70ed17652e5bf47d3fd49aa7cb115739cc0"), looks := true }, kinds := [], alts := [], laidByText := true, laidKinds := [.data, .handle, .pinned], laidTests := true, laidLooks := .later }
def DayEitherCardSaid : Prop := Claim7.holds Tryz.pinned (.plain (OpenSpec.ofChange dayEitherSpec)) dayEitherCard

/-- THE SECOND FORM's CARD OF 'complinelaw21.DayMasks'. -/
def dayMasksUptoCard : Claim7 := { stood := { row := dayMasksUptoRow, standIns := [], harness := (true, "f1dbe00e9bd8626c96a5cbfa64fba70ed17652e5bf47d3fd49aa7cb115739cc0"), looks := true }, kinds := [], alts := [], laidByText := true, laidKinds := [.data, .handle, .pinned], laidTests := true, laidLooks := .later }
def DayMasksUptoCardSaid : Prop := Claim7.holds Tryz.pinned (.plain (OpenSpec.upto dayMasksSpec)) dayMasksUptoCard

/-- THE SECOND FORM's CARD OF 'complinelaw21.DayMatches'. -/
def dayMatchesUptoCard : Claim7 := { stood := { row := dayMatchesUptoRow, standIns := [], harness := (true, "f1dbe00e9bd8626c96a5cbfa64fba70ed17652e5bf47d3fd49aa7cb115739cc0"), looks := true }, kinds := [], alts := [], laidByText := true, laidKinds := [.data, .handle, .pinned], laidTests := true, laidLooks := .later }
def DayMatchesUptoCardSaid : Prop := Claim7.holds Tryz.pinned (.plain (OpenSpec.upto dayMatchesSpec)) dayMatchesUptoCard

/-- THE SECOND FORM's CARD OF 'complinelaw21.DayParts'. -/
def dayPartsUptoCard : Claim7 := { stood := { row := dayPartsUptoRow, standIns := [], harness := (true, "f1dbe00e9bd8626c96a5cbfa64fba70ed17652e5bf47d3fd49aa7cb115739cc0"), looks := true }, kinds := [], alts := [], laidByText := true, laidKinds := [.data, .handle, .pinned], laidTests := true, laidLooks := .later }
def DayPartsUptoCardSaid : Prop := Claim7.holds Tryz.pinned (.plain (OpenSpec.upto dayPartsSpec)) dayPartsUptoCard

/-- THE SECOND FORM's CARD OF 'complinelaw21.DayMonths'. -/
def dayMonthsUptoCard : Claim7 := { stood := { row := dayMonthsUptoRow, standIns := [], harness := (true, "f1dbe00e9bd8626c96a5cbfa64fba70ed17652e5bf47d3fd49aa7cb115739cc0"), looks := true }, kinds := [], alts := [], laidByText := true, laidKinds := [.data, .handle, .pinned], laidTests := true, laidLooks := .later }
def DayMonthsUptoCardSaid : Prop := Claim7.holds Tryz.pinned (.plain (OpenSpec.upto dayMonthsSpec)) dayMonthsUptoCard

/-- THE SECOND FORM's CARD OF 'complinelaw21.DayWeeks'. -/
def dayWeeksUptoCard : Claim7 := { stood := { row := dayWeeksUptoRow, standIns := [], harness := (true, "f1dbe00e9bd8626c96a5cbfa64fba70ed17652e5bf47d3fd49aa7cb115739cc0"), looks := true }, kinds := [], alts := [], laidByText := true, laidKinds := [.data, .handle, .pinned], laidTests := true, laidLooks := .later }
def DayWeeksUptoCardSaid : Prop := Claim7.holds Tryz.pinned (.plain (OpenSpec.upto dayWeeksSpec)) dayWeeksUptoCard

/-- THE SECOND FORM's CARD OF 'complinelaw21.DayEither'. -/
def dayEitherUptoCard : Claim7 := { stood := { row := dayEitherUptoRow, standIns := [], harness := (true, "f1dbe00e9bd8626c96a5cbfa64fba70ed17652e5bf47d3fd49aa7cb115739cc0"), looks := true }, kinds := [], alts := [], laidByText := true, laidKinds := [.data, .handle, .pinned], laidTests := true, laidLooks := .later }
def DayEitherUptoCardSaid : Prop := Claim7.holds Tryz.pinned (.plain (OpenSpec.upto dayEitherSpec)) dayEitherUptoCard
end Rows
end Go.Proofs.YtcjfjicagopppaaGreatDoor
