/-
  DERIVED. GIVEN WITH THE SEED: THE CARDS: each row of YtjddfpciblhpaaaDoorRows.lean that lists a variable, with what it lists TIED to the program's text (the seventh form; the later family's looks); each row that meets fmt, with fmt's text TOLD by the authors' own Lean function (tested against real Go, not proved from fmt's source: count such statements apart). THE CARD IS WHAT COUNTS. Prove the row's statement (the work); the ties are given (YtjddfpciblhpaaaDoorTie.lean); close each card by the builder's one call (the guide's Derived/Test/ToyasCard.lean, 'card_holds'). Laid BY PROGRAM, IN A SANDBOX (cutbox-door.mjs). By AI agents, Wed Nov 11 2026. No macro, syntax, notation, axiom, sorry.
-/
import Derived.Test.YtjddfpciblhpaaaDoorRows
import GoSem.ClaimSeven
namespace Go.Proofs.YtjddfpciblhpaaaDoor
namespace Rows

/-- THE TIED CARD OF 'complinelaw19.SpecChecks'. -/
def specChecksCard : Claim7 := { stood := { row := specChecksRow, standIns := [], harness := (true, "c04c67a3ce278162381d8df52f1ca2735908e4a0a8d86b4eba52357d566250e7"), looks := true }, kinds := [], alts := [], laidByText := true, laidKinds := [.data, .handle, .pinned], laidTests := true, laidLooks := .later }
def SpecChecksCardSaid : Prop := Claim7.holds Tryd.pinned (.plain (OpenSpec.ofChange specChecksSpec)) specChecksCard

/-- THE TIED CARD OF 'complinelaw19.SpecMay'. -/
def specMayCard : Claim7 := { stood := { row := specMayRow, standIns := [], harness := (true, "c04c67a3ce278162381d8df52f1ca2735908e4a0a8d86b4eba52357d566250e7"), looks := true }, kinds := [], alts := [], laidByText := true, laidKinds := [.data, .handle, .pinned], laidTests := true, laidLooks := .later }
def SpecMayCardSaid : Prop := Claim7.holds Tryd.pinned (.plain (OpenSpec.ofChange specMaySpec)) specMayCard

/-- THE TIED CARD OF 'complinelaw19.SpecFirst'. -/
def specFirstCard : Claim7 := { stood := { row := specFirstRow, standIns := [], harness := (true, "c04c67a3ce278162381d8df52f1ca2735908e4a0a8d86b4eba52357d566250e7"), looks := true }, kinds := [], alts := [], laidByText := true, laidKinds := [.data, .handle, .pinned], laidTests := true, laidLooks := .later }
def SpecFirstCardSaid : Prop := Claim7.holds Tryd.pinned (.plain (OpenSpec.ofChange specFirstSpec)) specFirstCard

/-- THE TIED CARD OF 'complinelaw19.SpecPuts'. -/
def specPutsCard : Claim7 := { stood := { row := specPutsRow, standIns := [], harness := (true, "c04c67a3ce278162381d8df52f1ca2735908e4a0a8d86b4eba52357d566250e7"), looks := true }, kinds := [], alts := [], laidByText := true, laidKinds := [.data, .handle, .pinned], laidTests := true, laidLooks := .later }
def SpecPutsCardSaid : Prop := Claim7.holds Tryd.pinned (.plain (OpenSpec.ofChange specPutsSpec)) specPutsCard

/-- THE SECOND FORM's CARD OF 'complinelaw19.SpecChecks'. -/
def specChecksUptoCard : Claim7 := { stood := { row := specChecksUptoRow, standIns := [], harness := (true, "c04c67a3ce278162381d8df52f1ca2735908e4a0a8d86b4eba52357d566250e7"), looks := true }, kinds := [], alts := [], laidByText := true, laidKinds := [.data, .handle, .pinned], laidTests := true, laidLooks := .later }
def SpecChecksUptoCardSaid : Prop := Claim7.holds Tryd.pinned (.plain (OpenSpec.upto specChecksSpec)) specChecksUptoCard

/-- THE SECOND FORM's CARD OF 'complinelaw19.SpecMay'. -/
def specMayUptoCard : Claim7 := { stood := { row := specMayUptoRow, standIns := [], harness := (true, "c04c67a3ce278162381d8df52f1ca2735908e4a0a8d86b4eba52357d566250e7"), looks := true }, kinds := [], alts := [], laidByText := true, laidKinds := [.data, .handle, .pinned], laidTests := true, laidLooks := .later }
def SpecMayUptoCardSaid : Prop := Claim7.holds Tryd.pinned (.plain (OpenSpec.upto specMaySpec)) specMayUptoCard

/-- THE SECOND FORM's CARD OF 'complinelaw19.SpecFirst'. -/
def specFirstUptoCard : Claim7 := { stood := { row := specFirstUptoRow, standIns := [], harness := (true, "c04c67a3ce278162381d8df52f1ca2735908e4a0a8d86b4eba52357d566250e7"), looks := true }, kinds := [], alts := [], laidByText := true, laidKinds := [.data, .handle, .pinned], laidTests := true, laidLooks := .later }
def SpecFirstUptoCardSaid : Prop := Claim7.holds Tryd.pinned (.plain (OpenSpec.upto specFirstSpec)) specFirstUptoCard

/-- THE SECOND FORM's CARD OF 'complinelaw19.SpecPuts'. -/
def specPutsUptoCard : Claim7 := { stood := { row := specPutsUptoRow, standIns := [], harness := (true, "c04c67a3ce278162381d8df52f1ca2735908e4a0a8d86b4eba52357d566250e7"), looks := true }, kinds := [], alts := [], laidByText := true, laidKinds := [.data, .handle, .pinned], laidTests := true, laidLooks := .later }
def SpecPutsUptoCardSaid : Prop := Claim7.holds Tryd.pinned (.plain (OpenSpec.upto specPutsSpec)) specPutsUptoCard
end Rows
end Go.Proofs.YtjddfpciblhpaaaDoor
