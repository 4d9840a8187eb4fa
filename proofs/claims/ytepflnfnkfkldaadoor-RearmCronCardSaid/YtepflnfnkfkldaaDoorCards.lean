/-
  DERIVED. GIVEN WITH THE SEED: THE CARDS: each row of YtepflnfnkfkldaaDoorRows.lean that lists a variable, with what it lists TIED to the program's text (the seventh form; the later family's looks); each row that meets fmt, with fmt's text TOLD by the authors' own Lean function (tested against real Go, not proved from fmt's source: count such statements apart). THE CARD IS WHAT COUNTS. Prove the row's statement (the work); the ties are given (YtepflnfnkfkldaaDoorTie.lean); close each card by the builder's one call (the guide's Derived/Test/ToyasCard.lean, 'card_holds'). Laid BY PROGRAM, IN A SANDBOX (cutbox-door.mjs). By AI agents, Wed Nov 11 2026. No macro, syntax, notation, axiom, sorry.
-/
import Derived.Test.YtepflnfnkfkldaaDoorRows
import GoSem.ClaimSeven
namespace Go.Proofs.YtepflnfnkfkldaaDoor
namespace Rows

/-- THE TIED CARD OF 'complinelaw23.RearmFirst'. -/
def rearmFirstCard : Claim7 := { stood := { row := rearmFirstRow, standIns := [], harness := (true, "cbe585ce5cb6940b1f818f4ab0022ee1496150b641a81f3b83f17a26700830d9"), looks := false }, kinds := [], alts := [], laidByText := true, laidKinds := [.data], laidTests := true, laidLooks := .later }
def RearmFirstCardSaid : Prop := Claim7.holds Tryd.pinned (.plain (OpenSpec.ofChange rearmFirstSpec)) rearmFirstCard

/-- THE TIED CARD OF 'complinelaw23.RearmAgain'. -/
def rearmAgainCard : Claim7 := { stood := { row := rearmAgainRow, standIns := [], harness := (true, "cbe585ce5cb6940b1f818f4ab0022ee1496150b641a81f3b83f17a26700830d9"), looks := false }, kinds := [], alts := [], laidByText := true, laidKinds := [.data], laidTests := true, laidLooks := .later }
def RearmAgainCardSaid : Prop := Claim7.holds Tryd.pinned (.plain (OpenSpec.ofChange rearmAgainSpec)) rearmAgainCard

/-- THE TIED CARD OF 'complinelaw23.RearmLater'. -/
def rearmLaterCard : Claim7 := { stood := { row := rearmLaterRow, standIns := [], harness := (true, "cbe585ce5cb6940b1f818f4ab0022ee1496150b641a81f3b83f17a26700830d9"), looks := false }, kinds := [], alts := [], laidByText := true, laidKinds := [.data], laidTests := true, laidLooks := .later }
def RearmLaterCardSaid : Prop := Claim7.holds Tryd.pinned (.plain (OpenSpec.ofChange rearmLaterSpec)) rearmLaterCard

/-- THE TIED CARD OF 'complinelaw23.RearmLeft'. -/
def rearmLeftCard : Claim7 := { stood := { row := rearmLeftRow, standIns := [], harness := (true, "cbe585ce5cb6940b1f818f4ab0022ee1496150b641a81f3b83f17a26700830d9"), looks := false }, kinds := [], alts := [], laidByText := true, laidKinds := [.data], laidTests := true, laidLooks := .later }
def RearmLeftCardSaid : Prop := Claim7.holds Tryd.pinned (.plain (OpenSpec.ofChange rearmLeftSpec)) rearmLeftCard

/-- THE TIED CARD OF 'complinelaw23.RearmEndless'. -/
def rearmEndlessCard : Claim7 := { stood := { row := rearmEndlessRow, standIns := [], harness := (true, "cbe585ce5cb6940b1f818f4ab0022ee1496150b641a81f3b83f17a26700830d9"), looks := false }, kinds := [], alts := [], laidByText := true, laidKinds := [.data], laidTests := true, laidLooks := .later }
def RearmEndlessCardSaid : Prop := Claim7.holds Tryd.pinned (.plain (OpenSpec.ofChange rearmEndlessSpec)) rearmEndlessCard

/-- THE TIED CARD OF 'complinelaw23.RearmCron'. -/
def rearmCronCard : Claim7 := { stood := { row := rearmCronRow, standIns := [], harness := (true, "cbe585ce5cb6940b1f818f4ab0022ee1496150b641a81f3b83f17a26700830d9"), looks := false }, kinds := [], alts := [], laidByText := true, laidKinds := [.data], laidTests := true, laidLooks := .later }
def RearmCronCardSaid : Prop := Claim7.holds Tryd.pinned (.plain (OpenSpec.ofChange rearmCronSpec)) rearmCronCard

/-- THE SECOND FORM's CARD OF 'complinelaw23.RearmFirst'. -/
def rearmFirstUptoCard : Claim7 := { stood := { row := rearmFirstUptoRow, standIns := [], harness := (true, "cbe585ce5cb6940b1f818f4ab0022ee1496150b641a81f3b83f17a26700830d9"), looks := false }, kinds := [], alts := [], laidByText := true, laidKinds := [.data], laidTests := true, laidLooks := .later }
def RearmFirstUptoCardSaid : Prop := Claim7.holds Tryd.pinned (.plain (OpenSpec.upto rearmFirstSpec)) rearmFirstUptoCard

/-- THE SECOND FORM's CARD OF 'complinelaw23.RearmAgain'. -/
def rearmAgainUptoCard : Claim7 := { stood := { row := rearmAgainUptoRow, standIns := [], harness := (true, "cbe585ce5cb6940b1f818f4ab0022ee1496150b641a81f3b83f17a26700830d9"), looks := false }, kinds := [], alts := [], laidByText := true, laidKinds := [.data], laidTests := true, laidLooks := .later }
def RearmAgainUptoCardSaid : Prop := Claim7.holds Tryd.pinned (.plain (OpenSpec.upto rearmAgainSpec)) rearmAgainUptoCard

/-- THE SECOND FORM's CARD OF 'complinelaw23.RearmLater'. -/
def rearmLaterUptoCard : Claim7 := { stood := { row := rearmLaterUptoRow, standIns := [], harness := (true, "cbe585ce5cb6940b1f818f4ab0022ee1496150b641a81f3b83f17a26700830d9"), looks := false }, kinds := [], alts := [], laidByText := true, laidKinds := [.data], laidTests := true, laidLooks := .later }
def RearmLaterUptoCardSaid : Prop := Claim7.holds Tryd.pinned (.plain (OpenSpec.upto rearmLaterSpec)) rearmLaterUptoCard

/-- THE SECOND FORM's CARD OF 'complinelaw23.RearmLeft'. -/
def rearmLeftUptoCard : Claim7 := { stood := { row := rearmLeftUptoRow, standIns := [], harness := (true, "cbe585ce5cb6940b1f818f4ab0022ee1496150b641a81f3b83f17a26700830d9"), looks := false }, kinds := [], alts := [], laidByText := true, laidKinds := [.data], laidTests := true, laidLooks := .later }
def RearmLeftUptoCardSaid : Prop := Claim7.holds Tryd.pinned (.plain (OpenSpec.upto rearmLeftSpec)) rearmLeftUptoCard

/-- THE SECOND FORM's CARD OF 'complinelaw23.RearmEndless'. -/
def rearmEndlessUptoCard : Claim7 := { stood := { row := rearmEndlessUptoRow, standIns := [], harness := (true, "cbe585ce5cb6940b1f818f4ab0022ee1496150b641a81f3b83f17a26700830d9"), looks := false }, kinds := [], alts := [], laidByText := true, laidKinds := [.data], laidTests := true, laidLooks := .later }
def RearmEndlessUptoCardSaid : Prop := Claim7.holds Tryd.pinned (.plain (OpenSpec.upto rearmEndlessSpec)) rearmEndlessUptoCard

/-- THE SECOND FORM's CARD OF 'complinelaw23.RearmCron'. -/
def rearmCronUptoCard : Claim7 := { stood := { row := rearmCronUptoRow, standIns := [], harness := (true, "cbe585ce5cb6940b1f818f4ab0022ee1496150b641a81f3b83f17a26700830d9"), looks := false }, kinds := [], alts := [], laidByText := true, laidKinds := [.data], laidTests := true, laidLooks := .later }
def RearmCronUptoCardSaid : Prop := Claim7.holds Tryd.pinned (.plain (OpenSpec.upto rearmCronSpec)) rearmCronUptoCard
end Rows
end Go.Proofs.YtepflnfnkfkldaaDoor
