/-
  DERIVED. GIVEN WITH THE SEED: THE CARDS: each row of YtfkhifbllpibjaaDoorRows.lean that lists a variable, with what it lists TIED to the program's text (the seventh form; the later family's looks); each row that meets fmt, with fmt's text TOLD by the authors' own Lean function (tested against real Go, not proved from fmt's source: count such statements apart). THE CARD IS WHAT COUNTS. Prove the row's statement (the work); the ties are given (YtfkhifbllpibjaaDoorTie.lean); close each card by the builder's one call (the guide's Derived/Test/ToyasCard.lean, 'card_holds'). Laid BY PROGRAM, IN A SANDBOX (cutbox-door.mjs). By AI agents, Wed Nov 11 2026. No macro, syntax, notation, axiom, sorry.
-/
import Derived.Test.YtfkhifbllpibjaaDoorRows
import GoSem.ClaimSeven
namespace Go.Proofs.YtfkhifbllpibjaaDoor
namespace Rows

/-- THE TIED CARD OF 'complinelaw18.FieldParses'. -/
def fieldParsesCard : Claim7 := { stood := { row := fieldParsesRow, standIns := [], harness := (true, "24892c144e6daae08b70b47abadcf04824a4b22c4fff4b8fe899f270ba6a4e3e"), looks := true }, kinds := [], alts := [], laidByText := true, laidKinds := [.data, .data, .handle, .pinned], laidTests := true, laidLooks := .later }
def FieldParsesCardSaid : Prop := Claim7.holds Tryd.pinned (.plain (OpenSpec.ofChange fieldParsesSpec)) fieldParsesCard

/-- THE TIED CARD OF 'complinelaw18.FieldTells'. -/
def fieldTellsCard : Claim7 := { stood := { row := fieldTellsRow, standIns := [], harness := (true, "24892c144e6daae08b70b47abadcf04824a4b22c4fff4b8fe899f270ba6a4e3e"), looks := true }, kinds := [], alts := [], laidByText := true, laidKinds := [.data, .data, .handle, .pinned], laidTests := true, laidLooks := .later }
def FieldTellsCardSaid : Prop := Claim7.holds Tryd.pinned (.plain (OpenSpec.ofChange fieldTellsSpec)) fieldTellsCard

/-- THE TIED CARD OF 'complinelaw18.FieldMay'. -/
def fieldMayCard : Claim7 := { stood := { row := fieldMayRow, standIns := [], harness := (true, "24892c144e6daae08b70b47abadcf04824a4b22c4fff4b8fe899f270ba6a4e3e"), looks := true }, kinds := [], alts := [], laidByText := true, laidKinds := [.data, .data, .handle, .pinned], laidTests := true, laidLooks := .later }
def FieldMayCardSaid : Prop := Claim7.holds Tryd.pinned (.plain (OpenSpec.ofChange fieldMaySpec)) fieldMayCard

/-- THE TIED CARD OF 'complinelaw18.FieldBoth'. -/
def fieldBothCard : Claim7 := { stood := { row := fieldBothRow, standIns := [], harness := (true, "24892c144e6daae08b70b47abadcf04824a4b22c4fff4b8fe899f270ba6a4e3e"), looks := true }, kinds := [], alts := [], laidByText := true, laidKinds := [.data, .data, .handle, .pinned], laidTests := true, laidLooks := .later }
def FieldBothCardSaid : Prop := Claim7.holds Tryd.pinned (.plain (OpenSpec.ofChange fieldBothSpec)) fieldBothCard

/-- THE TIED CARD OF 'complinelaw18.FieldRuns'. -/
def fieldRunsCard : Claim7 := { stood := { row := fieldRunsRow, standIns := [], harness := (true, "24892c144e6daae08b70b47abadcf04824a4b22c4fff4b8fe899f270ba6a4e3e"), looks := true }, kinds := [], alts := [], laidByText := true, laidKinds := [.data, .data, .handle, .pinned], laidTests := true, laidLooks := .later }
def FieldRunsCardSaid : Prop := Claim7.holds Tryd.pinned (.plain (OpenSpec.ofChange fieldRunsSpec)) fieldRunsCard

/-- THE TIED CARD OF 'complinelaw18.FieldOne'. -/
def fieldOneCard : Claim7 := { stood := { row := fieldOneRow, standIns := [], harness := (true, "24892c144e6daae08b70b47abadcf04824a4b22c4fff4b8fe899f270ba6a4e3e"), looks := true }, kinds := [], alts := [], laidByText := true, laidKinds := [.data, .data, .handle, .pinned], laidTests := true, laidLooks := .later }
def FieldOneCardSaid : Prop := Claim7.holds Tryd.pinned (.plain (OpenSpec.ofChange fieldOneSpec)) fieldOneCard

/-- THE SECOND FORM's CARD OF 'complinelaw18.FieldParses'. -/
def fieldParsesUptoCard : Claim7 := { stood := { row := fieldParsesUptoRow, standIns := [], harness := (true, "24892c144e6daae08b70b47abadcf04824a4b22c4fff4b8fe899f270ba6a4e3e"), looks := true }, kinds := [], alts := [], laidByText := true, laidKinds := [.data, .data, .handle, .pinned], laidTests := true, laidLooks := .later }
def FieldParsesUptoCardSaid : Prop := Claim7.holds Tryd.pinned (.plain (OpenSpec.upto fieldParsesSpec)) fieldParsesUptoCard

/-- THE SECOND FORM's CARD OF 'complinelaw18.FieldTells'. -/
def fieldTellsUptoCard : Claim7 := { stood := { row := fieldTellsUptoRow, standIns := [], harness := (true, "24892c144e6daae08b70b47abadcf04824a4b22c4fff4b8fe899f270ba6a4e3e"), looks := true }, kinds := [], alts := [], laidByText := true, laidKinds := [.data, .data, .handle, .pinned], laidTests := true, laidLooks := .later }
def FieldTellsUptoCardSaid : Prop := Claim7.holds Tryd.pinned (.plain (OpenSpec.upto fieldTellsSpec)) fieldTellsUptoCard

/-- THE SECOND FORM's CARD OF 'complinelaw18.FieldMay'. -/
def fieldMayUptoCard : Claim7 := { stood := { row := fieldMayUptoRow, standIns := [], harness := (true, "24892c144e6daae08b70b47abadcf04824a4b22c4fff4b8fe899f270ba6a4e3e"), looks := true }, kinds := [], alts := [], laidByText := true, laidKinds := [.data, .data, .handle, .pinned], laidTests := true, laidLooks := .later }
def FieldMayUptoCardSaid : Prop := Claim7.holds Tryd.pinned (.plain (OpenSpec.upto fieldMaySpec)) fieldMayUptoCard

/-- THE SECOND FORM's CARD OF 'complinelaw18.FieldBoth'. -/
def fieldBothUptoCard : Claim7 := { stood := { row := fieldBothUptoRow, standIns := [], harness := (true, "24892c144e6daae08b70b47abadcf04824a4b22c4fff4b8fe899f270ba6a4e3e"), looks := true }, kinds := [], alts := [], laidByText := true, laidKinds := [.data, .data, .handle, .pinned], laidTests := true, laidLooks := .later }
def FieldBothUptoCardSaid : Prop := Claim7.holds Tryd.pinned (.plain (OpenSpec.upto fieldBothSpec)) fieldBothUptoCard

/-- THE SECOND FORM's CARD OF 'complinelaw18.FieldRuns'. -/
def fieldRunsUptoCard : Claim7 := { stood := { row := fieldRunsUptoRow, standIns := [], harness := (true, "24892c144e6daae08b70b47abadcf04824a4b22c4fff4b8fe899f270ba6a4e3e"), looks := true }, kinds := [], alts := [], laidByText := true, laidKinds := [.data, .data, .handle, .pinned], laidTests := true, laidLooks := .later }
def FieldRunsUptoCardSaid : Prop := Claim7.holds Tryd.pinned (.plain (OpenSpec.upto fieldRunsSpec)) fieldRunsUptoCard

/-- THE SECOND FORM's CARD OF 'complinelaw18.FieldOne'. -/
def fieldOneUptoCard : Claim7 := { stood := { row := fieldOneUptoRow, standIns := [], harness := (true, "24892c144e6daae08b70b47abadcf04824a4b22c4fff4b8fe899f270ba6a4e3e"), looks := true }, kinds := [], alts := [], laidByText := true, laidKinds := [.data, .data, .handle, .pinned], laidTests := true, laidLooks := .later }
def FieldOneUptoCardSaid : Prop := Claim7.holds Tryd.pinned (.plain (OpenSpec.upto fieldOneSpec)) fieldOneUptoCard
end Rows
end Go.Proofs.YtfkhifbllpibjaaDoor
