/-
  No cell of these rows narrows 'for every input' (looked for: loops, veiled, ifaces, maps, wideKeys, modest, calm, conditions, laid).
  DERIVED. THE GIVEN ROWS OF THIS SEAT. 7 by the template 'for every input the law returns true; each argument reads behind the call as it read before'; 0 by the template 'total and deterministic' (their statements: YtjhfdabehdjplaaTotals.lean).
  GIVEN WITH THE SEED: the statements are not yours to turn. If you find one false, say at which input.
  Laid BY PROGRAM, IN A SANDBOX (cutbox-rows.mjs): the forced cells as the released guide's own fill.sh prints them over the translation d9e5053499b6f8ef… (all of the seat's roots in one cut). By AI agents, Wed Nov 11 2026. No macro, syntax, notation, axiom, sorry.
-/
import Derived.Test.YtjhfdabehdjplaaChecked
import GoSem.Claim
import GoSem.ClaimJoined
import GoSem.ClaimMapViews
import Derived.JoinedTies
import Derived.KernelRfl
namespace Go.Proofs.Ytjhfdabehdjplaa
/- THE CELL 'sum', in the pinned program and in every row, IS THE sha256 OF THE DUMP (.gsa) THAT YtjhfdabehdjplaaProg.lean LOADS. Nothing in Lean hashes anything: it is a label: what it is worth is what the hold of that sum in a sandbox is worth. -/
noncomputable def Try.pinned : Pinned := { name := "ytjhfdabehdjplaa", sum := "d9e5053499b6f8efc923af837bfb3fb9a1037c9e6b74b8c90bedbbac1e937e19", checked := Try.checked }
namespace Rows
def none {H : Type} : Left H := { results := [], args := [] }

/-- 'complinelaw16.CivilDays': WHATEVER THE INPUT: true; the input reads as it did. -/
def civilDaysSpec : ChangeSpec := { name := "civilDays", fn := fun _ => fun
  | [d1, d2, d3] => { results := [.lit (.bool true)], args := [d1, d2, d3] }
  | _ => none }
def civilDaysRow : OpenClaim := { program := "ytjhfdabehdjplaa", sum := "d9e5053499b6f8efc923af837bfb3fb9a1037c9e6b74b8c90bedbbac1e937e19", func := "compline/complinelaw16.CivilDays", spec := "civilDays", unfollowed := true, recurses := true, apart := false }
def CivilDaysSaid : Prop := civilDaysRow.holds Try.pinned (OpenSpec.ofChange civilDaysSpec)

/-- ITS FALSE NEIGHBOUR: 'it returns false'. Refute it at one input. -/
def civilDaysWrong : ChangeSpec := { name := "civilDays", fn := fun _ => fun
  | [d1, d2, d3] => { results := [.lit (.bool false)], args := [d1, d2, d3] }
  | _ => none }
def CivilDaysWrongFalsely : Prop := civilDaysRow.holds Try.pinned (OpenSpec.ofChange civilDaysWrong)

/-- 'complinelaw16.CivilDates': WHATEVER THE INPUT: true; the input reads as it did. -/
def civilDatesSpec : ChangeSpec := { name := "civilDates", fn := fun _ => fun
  | [d] => { results := [.lit (.bool true)], args := [d] }
  | _ => none }
def civilDatesRow : OpenClaim := { program := "ytjhfdabehdjplaa", sum := "d9e5053499b6f8efc923af837bfb3fb9a1037c9e6b74b8c90bedbbac1e937e19", func := "compline/complinelaw16.CivilDates", spec := "civilDates", unfollowed := true, recurses := true, apart := false }
def CivilDatesSaid : Prop := civilDatesRow.holds Try.pinned (OpenSpec.ofChange civilDatesSpec)

/-- ITS FALSE NEIGHBOUR: 'it returns false'. Refute it at one input. -/
def civilDatesWrong : ChangeSpec := { name := "civilDates", fn := fun _ => fun
  | [d] => { results := [.lit (.bool false)], args := [d] }
  | _ => none }
def CivilDatesWrongFalsely : Prop := civilDatesRow.holds Try.pinned (OpenSpec.ofChange civilDatesWrong)

/-- 'complinelaw16.CivilBack': WHATEVER THE INPUT: true; the input reads as it did. -/
def civilBackSpec : ChangeSpec := { name := "civilBack", fn := fun _ => fun
  | [d] => { results := [.lit (.bool true)], args := [d] }
  | _ => none }
def civilBackRow : OpenClaim := { program := "ytjhfdabehdjplaa", sum := "d9e5053499b6f8efc923af837bfb3fb9a1037c9e6b74b8c90bedbbac1e937e19", func := "compline/complinelaw16.CivilBack", spec := "civilBack", unfollowed := true, recurses := true, apart := false }
def CivilBackSaid : Prop := civilBackRow.holds Try.pinned (OpenSpec.ofChange civilBackSpec)

/-- ITS FALSE NEIGHBOUR: 'it returns false'. Refute it at one input. -/
def civilBackWrong : ChangeSpec := { name := "civilBack", fn := fun _ => fun
  | [d] => { results := [.lit (.bool false)], args := [d] }
  | _ => none }
def CivilBackWrongFalsely : Prop := civilBackRow.holds Try.pinned (OpenSpec.ofChange civilBackWrong)

/-- 'complinelaw16.CivilGoes': WHATEVER THE INPUT: true; the input reads as it did. -/
def civilGoesSpec : ChangeSpec := { name := "civilGoes", fn := fun _ => fun
  | [d] => { results := [.lit (.bool true)], args := [d] }
  | _ => none }
def civilGoesRow : OpenClaim := { program := "ytjhfdabehdjplaa", sum := "d9e5053499b6f8efc923af837bfb3fb9a1037c9e6b74b8c90bedbbac1e937e19", func := "compline/complinelaw16.CivilGoes", spec := "civilGoes", unfollowed := true, recurses := true, apart := false }
def CivilGoesSaid : Prop := civilGoesRow.holds Try.pinned (OpenSpec.ofChange civilGoesSpec)

/-- ITS FALSE NEIGHBOUR: 'it returns false'. Refute it at one input. -/
def civilGoesWrong : ChangeSpec := { name := "civilGoes", fn := fun _ => fun
  | [d] => { results := [.lit (.bool false)], args := [d] }
  | _ => none }
def CivilGoesWrongFalsely : Prop := civilGoesRow.holds Try.pinned (OpenSpec.ofChange civilGoesWrong)

/-- 'complinelaw16.CivilAges': WHATEVER THE INPUT: true; the input reads as it did. -/
def civilAgesSpec : ChangeSpec := { name := "civilAges", fn := fun _ => fun
  | [d1, d2, d3] => { results := [.lit (.bool true)], args := [d1, d2, d3] }
  | _ => none }
def civilAgesRow : OpenClaim := { program := "ytjhfdabehdjplaa", sum := "d9e5053499b6f8efc923af837bfb3fb9a1037c9e6b74b8c90bedbbac1e937e19", func := "compline/complinelaw16.CivilAges", spec := "civilAges", unfollowed := true, recurses := true, apart := false }
def CivilAgesSaid : Prop := civilAgesRow.holds Try.pinned (OpenSpec.ofChange civilAgesSpec)

/-- ITS FALSE NEIGHBOUR: 'it returns false'. Refute it at one input. -/
def civilAgesWrong : ChangeSpec := { name := "civilAges", fn := fun _ => fun
  | [d1, d2, d3] => { results := [.lit (.bool false)], args := [d1, d2, d3] }
  | _ => none }
def CivilAgesWrongFalsely : Prop := civilAgesRow.holds Try.pinned (OpenSpec.ofChange civilAgesWrong)

/-- 'complinelaw16.CivilMinutes': WHATEVER THE INPUT: true; the input reads as it did. -/
def civilMinutesSpec : ChangeSpec := { name := "civilMinutes", fn := fun _ => fun
  | [d1, d2] => { results := [.lit (.bool true)], args := [d1, d2] }
  | _ => none }
def civilMinutesRow : OpenClaim := { program := "ytjhfdabehdjplaa", sum := "d9e5053499b6f8efc923af837bfb3fb9a1037c9e6b74b8c90bedbbac1e937e19", func := "compline/complinelaw16.CivilMinutes", spec := "civilMinutes", unfollowed := true, recurses := true, apart := false }
def CivilMinutesSaid : Prop := civilMinutesRow.holds Try.pinned (OpenSpec.ofChange civilMinutesSpec)

/-- ITS FALSE NEIGHBOUR: 'it returns false'. Refute it at one input. -/
def civilMinutesWrong : ChangeSpec := { name := "civilMinutes", fn := fun _ => fun
  | [d1, d2] => { results := [.lit (.bool false)], args := [d1, d2] }
  | _ => none }
def CivilMinutesWrongFalsely : Prop := civilMinutesRow.holds Try.pinned (OpenSpec.ofChange civilMinutesWrong)

/-- 'complinelaw16.CivilTurns': WHATEVER THE INPUT: true; the input reads as it did. -/
def civilTurnsSpec : ChangeSpec := { name := "civilTurns", fn := fun _ => fun
  | [d1, d2] => { results := [.lit (.bool true)], args := [d1, d2] }
  | _ => none }
def civilTurnsRow : OpenClaim := { program := "ytjhfdabehdjplaa", sum := "d9e5053499b6f8efc923af837bfb3fb9a1037c9e6b74b8c90bedbbac1e937e19", func := "compline/complinelaw16.CivilTurns", spec := "civilTurns", unfollowed := true, recurses := true, apart := false }
def CivilTurnsSaid : Prop := civilTurnsRow.holds Try.pinned (OpenSpec.ofChange civilTurnsSpec)

/-- ITS FALSE NEIGHBOUR: 'it returns false'. Refute it at one input. -/
def civilTurnsWrong : ChangeSpec := { name := "civilTurns", fn := fun _ => fun
  | [d1, d2] => { results := [.lit (.bool false)], args := [d1, d2] }
  | _ => none }
def CivilTurnsWrongFalsely : Prop := civilTurnsRow.holds Try.pinned (OpenSpec.ofChange civilTurnsWrong)

/- THE SECOND FORM. 'bulk': how many values and letters a reading holds, each counted each time it is reached (what is shared counts as often as it is met; a slice's spare places count too). A statement '..UptoSaid' is the law's where the arguments, and the package variables that the reading takes, are together of bulk at most 1048576: NARROWER than '..Said'. Prove '..Said' where nothing that the law and all that it calls make is longer than what came in: it says more and counts as full. Else prove '..UptoSaid'. A law counts once. -/
mutual
def uptoBulk {H : Type} : DataW H → Nat
  | .lit (.string bytes) => bytes.length + 1
  | .lit _ => 1
  | .nil => 1
  | .ptr d => uptoBulk d + 1
  | .slice elems spare => uptoBulkAll elems + uptoBulkAll spare + 1
  | .agg parts => uptoBulkAll parts + 1
  | .iface _ d => uptoBulk d + 1
  | .map entries => uptoBulkEntries entries + 1
  | .held _ => 1
def uptoBulkAll {H : Type} : List (DataW H) → Nat
  | [] => 0
  | d :: r => uptoBulk d + uptoBulkAll r
def uptoBulkEntries {H : Type} : List (Lit × DataW H) → Nat
  | [] => 0
  | x :: r => uptoBulkEntry x + uptoBulkEntries r
def uptoBulkEntry {H : Type} : Lit × DataW H → Nat
  | (.string bytes, d) => bytes.length + uptoBulk d + 1
  | (_, d) => uptoBulk d + 1
 end
def uptoSmall : (H : Type) → List (DataW H) → Bool := fun _ ds => decide (uptoBulkAll ds ≤ 1048576)
def OpenSpec.upto (s : _root_.Go.ChangeSpec) : _root_.Go.OpenSpec := { _root_.Go.OpenSpec.ofChange s with cond := some uptoSmall }

/-- 'complinelaw16.CivilDays', WHERE WHAT IT READS IS OF BULK AT MOST 1048576: true; the input reads as it did. -/
def civilDaysUptoRow : OpenClaim := { program := "ytjhfdabehdjplaa", sum := "d9e5053499b6f8efc923af837bfb3fb9a1037c9e6b74b8c90bedbbac1e937e19", func := "compline/complinelaw16.CivilDays", spec := "civilDays", unfollowed := true, recurses := true, apart := false, narrowed := true }
def CivilDaysUptoSaid : Prop := civilDaysUptoRow.holds Try.pinned (OpenSpec.upto civilDaysSpec)

/-- 'complinelaw16.CivilDates', WHERE WHAT IT READS IS OF BULK AT MOST 1048576: true; the input reads as it did. -/
def civilDatesUptoRow : OpenClaim := { program := "ytjhfdabehdjplaa", sum := "d9e5053499b6f8efc923af837bfb3fb9a1037c9e6b74b8c90bedbbac1e937e19", func := "compline/complinelaw16.CivilDates", spec := "civilDates", unfollowed := true, recurses := true, apart := false, narrowed := true }
def CivilDatesUptoSaid : Prop := civilDatesUptoRow.holds Try.pinned (OpenSpec.upto civilDatesSpec)

/-- 'complinelaw16.CivilBack', WHERE WHAT IT READS IS OF BULK AT MOST 1048576: true; the input reads as it did. -/
def civilBackUptoRow : OpenClaim := { program := "ytjhfdabehdjplaa", sum := "d9e5053499b6f8efc923af837bfb3fb9a1037c9e6b74b8c90bedbbac1e937e19", func := "compline/complinelaw16.CivilBack", spec := "civilBack", unfollowed := true, recurses := true, apart := false, narrowed := true }
def CivilBackUptoSaid : Prop := civilBackUptoRow.holds Try.pinned (OpenSpec.upto civilBackSpec)

/-- 'complinelaw16.CivilGoes', WHERE WHAT IT READS IS OF BULK AT MOST 1048576: true; the input reads as it did. -/
def civilGoesUptoRow : OpenClaim := { program := "ytjhfdabehdjplaa", sum := "d9e5053499b6f8efc923af837bfb3fb9a1037c9e6b74b8c90bedbbac1e937e19", func := "compline/complinelaw16.CivilGoes", spec := "civilGoes", unfollowed := true, recurses := true, apart := false, narrowed := true }
def CivilGoesUptoSaid : Prop := civilGoesUptoRow.holds Try.pinned (OpenSpec.upto civilGoesSpec)

/-- 'complinelaw16.CivilAges', WHERE WHAT IT READS IS OF BULK AT MOST 1048576: true; the input reads as it did. -/
def civilAgesUptoRow : OpenClaim := { program := "ytjhfdabehdjplaa", sum := "d9e5053499b6f8efc923af837bfb3fb9a1037c9e6b74b8c90bedbbac1e937e19", func := "compline/complinelaw16.CivilAges", spec := "civilAges", unfollowed := true, recurses := true, apart := false, narrowed := true }
def CivilAgesUptoSaid : Prop := civilAgesUptoRow.holds Try.pinned (OpenSpec.upto civilAgesSpec)

/-- 'complinelaw16.CivilMinutes', WHERE WHAT IT READS IS OF BULK AT MOST 1048576: true; the input reads as it did. -/
def civilMinutesUptoRow : OpenClaim := { program := "ytjhfdabehdjplaa", sum := "d9e5053499b6f8efc923af837bfb3fb9a1037c9e6b74b8c90bedbbac1e937e19", func := "compline/complinelaw16.CivilMinutes", spec := "civilMinutes", unfollowed := true, recurses := true, apart := false, narrowed := true }
def CivilMinutesUptoSaid : Prop := civilMinutesUptoRow.holds Try.pinned (OpenSpec.upto civilMinutesSpec)

/-- 'complinelaw16.CivilTurns', WHERE WHAT IT READS IS OF BULK AT MOST 1048576: true; the input reads as it did. -/
def civilTurnsUptoRow : OpenClaim := { program := "ytjhfdabehdjplaa", sum := "d9e5053499b6f8efc923af837bfb3fb9a1037c9e6b74b8c90bedbbac1e937e19", func := "compline/complinelaw16.CivilTurns", spec := "civilTurns", unfollowed := true, recurses := true, apart := false, narrowed := true }
def CivilTurnsUptoSaid : Prop := civilTurnsUptoRow.holds Try.pinned (OpenSpec.upto civilTurnsSpec)

end Rows
end Go.Proofs.Ytjhfdabehdjplaa
