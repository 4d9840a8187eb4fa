/-
  DERIVED. GIVEN WITH THE SEED: THE CARDS: each row of YtabhfcoljgcpeaaGreatDoorRows.lean that lists a variable, with what it lists TIED to the program's text (the seventh form; the later family's looks); each row that meets fmt, with fmt's text TOLD by the authors' own Lean function (tested against real Go, not proved from fmt's source: count such statements apart). THE CARD IS WHAT COUNTS. Prove the row's statement (the work); the ties are given (YtabhfcoljgcpeaaGreatDoorTie.lean); close each card by the builder's one call (the guide's Derived/Test/ToyasCard.lean, 'card_holds'). Laid BY PROGRAM, IN A SANDBOX (cutbox-door.mjs). By AI agents, Wed Nov 11 2026. No macro, syntax, notation, axiom, sorry.
-/
import Derived.Test.YtabhfcoljgcpeaaGreatDoorRows
import GoSem.ClaimSeven
namespace Go.Proofs.YtabhfcoljgcpeaaGreatDoor
namespace Rows

/-- THE TIED CARD OF 'complinelaw22.NextTells'. -/
def nextTellsCard : Claim7 := { stood := { row := nextTellsRow, standIns := [], harness := (true, "264ad7e971c5a68cddb3d2c40b974b054692700f1f1a6fb9ce1df39dd1f2658c"), looks := true }, kinds := [], alts := [], laidByText := true, laidKinds := [.data, .data, .handle, .pinned], laidTests := true, laidLooks := .later }
def NextTellsCardSaid : Prop := Claim7.holds Tryz.pinned (.plain (OpenSpec.ofChange nextTellsSpec)) nextTellsCard

/-- THE TIED CARD OF 'complinelaw22.NextBacks'. -/
def nextBacksCard : Claim7 := { stood := { row := nextBacksRow, standIns := [], harness := (true, "264ad7e971c5a68cddb3d2c40b974b054692700f1f1a6fb9ce1df39dd1f2658c"), looks := true }, kinds := [], alts := [], laidByText := true, laidKinds := [.data, .data, .handle, .pinned], laidTests := true, laidLooks := .later }
def NextBacksCardSaid : Prop := Claim7.holds Tryz.pinned (.plain (OpenSpec.ofChange nextBacksSpec)) nextBacksCard

/-- THE TIED CARD OF 'complinelaw22.NextCounts'. -/
def nextCountsCard : Claim7 := { stood := { row := nextCountsRow, standIns := [], harness := (true, "264ad7e971c5a68cddb3d2c40b974b054692700f1f1a6fb9ce1df39dd1f2658c"), looks := true }, kinds := [], alts := [], laidByText := true, laidKinds := [.data, .data, .handle, .pinned], laidTests := true, laidLooks := .later }
def NextCountsCardSaid : Prop := Claim7.holds Tryz.pinned (.plain (OpenSpec.ofChange nextCountsSpec)) nextCountsCard

/-- THE TIED CARD OF 'complinelaw22.NextLeast'. -/
def nextLeastCard : Claim7 := { stood := { row := nextLeastRow, standIns := [], harness := (true, "264ad7e971c5a68cddb3d2c40b974b054692700f1f1a6fb9ce1df39dd1f2658c"), looks := true }, kinds := [], alts := [], laidByText := true, laidKinds := [.data, .data, .handle, .pinned], laidTests := true, laidLooks := .later }
def NextLeastCardSaid : Prop := Claim7.holds Tryz.pinned (.plain (OpenSpec.ofChange nextLeastSpec)) nextLeastCard

/-- THE TIED CARD OF 'complinelaw22.NextTurns'. -/
def nextTurnsCard : Claim7 := { stood := { row := nextTurnsRow, standIns := [], harness := (true, "264ad7e971c5a68cddb3d2c40b974b054692700f1f1a6fb9ce1df39dd1f2658c"), looks := true }, kinds := [], alts := [], laidByText := true, laidKinds := [.data, .data, .handle, .pinned], laidTests := true, laidLooks := .later }
def NextTurnsCardSaid : Prop := Claim7.holds Tryz.pinned (.plain (OpenSpec.ofChange nextTurnsSpec)) nextTurnsCard

/-- THE TIED CARD OF 'complinelaw22.NextAdds'. -/
def nextAddsCard : Claim7 := { stood := { row := nextAddsRow, standIns := [], harness := (true, "264ad7e971c5a68cddb3d2c40b974b054692700f1f1a6fb9ce1df39dd1f2658c"), looks := true }, kinds := [], alts := [], laidByText := true, laidKinds := [.data, .data, .handle, .pinned], laidTests := true, laidLooks := .later }
def NextAddsCardSaid : Prop := Claim7.holds Tryz.pinned (.plain (OpenSpec.ofChange nextAddsSpec)) nextAddsCard

/-- THE TIED CARD OF 'complinelaw22.NextOne'. -/
def nextOneCard : Claim7 := { stood := { row := nextOneRow, standIns := [], harness := (true, "264ad7e971c5a68cddb3d2c40b974b054692700f1f1a6fb9ce1df39dd1f2658c"), looks := true }, kinds := [], alts := [], laidByText := true, laidKinds := [.data, .data, .handle, .pinned], laidTests := true, laidLooks := .later }
def NextOneCardSaid : Prop := Claim7.holds Tryz.pinned (.plain (OpenSpec.ofChange nextOneSpec)) nextOneCard

/-- THE SECOND FORM's CARD OF 'complinelaw22.NextTells'. -/
def nextTellsUptoCard : Claim7 := { stood := { row := nextTellsUptoRow, standIns := [], harness := (true, "264ad7e971c5a68cddb3d2c40b974b054692700f1f1a6fb9ce1df39dd1f2658c"), looks := true }, kinds := [], alts := [], laidByText := true, laidKinds := [.data, .data, .handle, .pinned], laidTests := true, laidLooks := .later }
def NextTellsUptoCardSaid : Prop := Claim7.holds Tryz.pinned (.plain (OpenSpec.upto nextTellsSpec)) nextTellsUptoCard

/-- THE SECOND FORM's CARD OF 'complinelaw22.NextBacks'. -/
def nextBacksUptoCard : Claim7 := { stood := { row := nextBacksUptoRow, standIns := [], harness := (true, "264ad7e971c5a68cddb3d2c40b974b054692700f1f1a6fb9ce1df39dd1f2658c"), looks := true }, kinds := [], alts := [], laidByText := true, laidKinds := [.data, .data, .handle, .pinned], laidTests := true, laidLooks := .later }
def NextBacksUptoCardSaid : Prop := Claim7.holds Tryz.pinned (.plain (OpenSpec.upto nextBacksSpec)) nextBacksUptoCard

/-- THE SECOND FORM's CARD OF 'complinelaw22.NextCounts'. -/
def nextCountsUptoCard : Claim7 := { stood := { row := nextCountsUptoRow, standIns := [], harness := (true, "264ad7e971c5a68cddb3d2c40b974b054692700f1f1a6fb9ce1df39dd1f2658c"), looks := true }, kinds := [], alts := [], laidByText := true, laidKinds := [.data, .data, .handle, .pinned], laidTests := true, laidLooks := .later }
def NextCountsUptoCardSaid : Prop := Claim7.holds Tryz.pinned (.plain (OpenSpec.upto nextCountsSpec)) nextCountsUptoCard

/-- THE SECOND FORM's CARD OF 'complinelaw22.NextLeast'. -/
def nextLeastUptoCard : Claim7 := { stood := { row := nextLeastUptoRow, standIns := [], harness := (true, "264ad7e971c5a68cddb3d2c40b974b054692700f1f1a6fb9ce1df39dd1f2658c"), looks := true }, kinds := [], alts := [], laidByText := true, laidKinds := [.data, .data, .handle, .pinned], laidTests := true, laidLooks := .later }
def NextLeastUptoCardSaid : Prop := Claim7.holds Tryz.pinned (.plain (OpenSpec.upto nextLeastSpec)) nextLeastUptoCard

/-- THE SECOND FORM's CARD OF 'complinelaw22.NextTurns'. -/
def nextTurnsUptoCard : Claim7 := { stood := { row := nextTurnsUptoRow, standIns := [], harness := (true, "264ad7e971c5a68cddb3d2c40b974b054692700f1f1a6fb9ce1df39dd1f2658c"), looks := true }, kinds := [], alts := [], laidByText := true, laidKinds := [.data, .data, .handle, .pinned], laidTests := true, laidLooks := .later }
def NextTurnsUptoCardSaid : Prop := Claim7.holds Tryz.pinned (.plain (OpenSpec.upto nextTurnsSpec)) nextTurnsUptoCard

/-- THE SECOND FORM's CARD OF 'complinelaw22.NextAdds'. -/
def nextAddsUptoCard : Claim7 := { stood := { row := nextAddsUptoRow, standIns := [], harness := (true, "264ad7e971c5a68cddb3d2c40b974b054692700f1f1a6fb9ce1df39dd1f2658c"), looks := true }, kinds := [], alts := [], laidByText := true, laidKinds := [.data, .data, .handle, .pinned], laidTests := true, laidLooks := .later }
def NextAddsUptoCardSaid : Prop := Claim7.holds Tryz.pinned (.plain (OpenSpec.upto nextAddsSpec)) nextAddsUptoCard

/-- THE SECOND FORM's CARD OF 'complinelaw22.NextOne'. -/
def nextOneUptoCard : Claim7 := { stood := { row := nextOneUptoRow, standIns := [], harness := (true, "264ad7e971c5a68cddb3d2c40b974b054692700f1f1a6fb9ce1df39dd1f2658c"), looks := true }, kinds := [], alts := [], laidByText := true, laidKinds := [.data, .data, .handle, .pinned], laidTests := true, laidLooks := .later }
def NextOneUptoCardSaid : Prop := Claim7.holds Tryz.pinned (.plain (OpenSpec.upto nextOneSpec)) nextOneUptoCard
end Rows
end Go.Proofs.YtabhfcoljgcpeaaGreatDoor
