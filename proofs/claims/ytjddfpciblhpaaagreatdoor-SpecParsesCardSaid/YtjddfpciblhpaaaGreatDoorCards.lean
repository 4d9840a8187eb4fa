/-
  DERIVED. GIVEN WITH THE SEED: THE CARDS: each row of YtjddfpciblhpaaaGreatDoorRows.lean that lists a variable, with what it lists TIED to the program's text (the seventh form; the later family's looks); each row that meets fmt, with fmt's text TOLD by the authors' own Lean function (tested against real Go, not proved from fmt's source: count such statements apart). THE CARD IS WHAT COUNTS. Prove the row's statement (the work); the ties are given (YtjddfpciblhpaaaGreatDoorTie.lean); close each card by the builder's one call (the guide's Derived/Test/ToyasCard.lean, 'card_holds'). Laid BY PROGRAM, IN A SANDBOX (cutbox-door.mjs). By AI agents, Wed Nov 11 2026. No macro, syntax, notation, axiom, sorry.
-/
import Derived.Test.YtjddfpciblhpaaaGreatDoorRows
import GoSem.ClaimSeven
namespace Go.Proofs.YtjddfpciblhpaaaGreatDoor
namespace Rows

/-- THE TIED CARD OF 'complinelaw19.SpecParses'. -/
def specParsesCard : Claim7 := { stood := { row := specParsesRow, standIns := [], harness := (true, "2731209cfdd0997ed42cb47bb601df26e9a071036f72bcde3e199a39f25ced04"), looks := true }, kinds := [], alts := [], laidByText := true, laidKinds := [.data, .handle, .pinned], laidTests := true, laidLooks := .later }
def SpecParsesCardSaid : Prop := Claim7.holds Tryz.pinned (.plain (OpenSpec.ofChange specParsesSpec)) specParsesCard

/-- THE SECOND FORM's CARD OF 'complinelaw19.SpecParses'. -/
def specParsesUptoCard : Claim7 := { stood := { row := specParsesUptoRow, standIns := [], harness := (true, "2731209cfdd0997ed42cb47bb601df26e9a071036f72bcde3e199a39f25ced04"), looks := true }, kinds := [], alts := [], laidByText := true, laidKinds := [.data, .handle, .pinned], laidTests := true, laidLooks := .later }
def SpecParsesUptoCardSaid : Prop := Claim7.holds Tryz.pinned (.plain (OpenSpec.upto specParsesSpec)) specParsesUptoCard
end Rows
end Go.Proofs.YtjddfpciblhpaaaGreatDoor
