/-
  No cell of these rows narrows 'for every input' (looked for: loops, veiled, ifaces, maps, wideKeys, modest, calm, conditions, laid).
  DERIVED. THE GIVEN ROWS OF THIS SEAT. 5 by the template 'for every input the law returns true; each argument reads behind the call as it read before'; 0 by the template 'total and deterministic' (their statements: YtgajipaenoepiaaTotals.lean).
  GIVEN WITH THE SEED: the statements are not yours to turn. If you find one false, say at which input.
  Laid BY PROGRAM, IN A SANDBOX (cutbox-rows.mjs): the forced cells as the released guide's own fill.sh prints them over the translation 4bfa1d288ede8747… (all of the seat's roots in one cut). By AI agents, Wed Nov 11 2026. No macro, syntax, notation, axiom, sorry.
-/
import Derived.Test.YtgajipaenoepiaaChecked
import GoSem.Claim
import GoSem.ClaimJoined
import GoSem.ClaimMapViews
import Derived.JoinedTies
import Derived.KernelRfl
namespace Go.Proofs.Ytgajipaenoepiaa
/- THE CELL 'sum', in the pinned program and in every row, IS THE sha256 OF THE DUMP (.gsa) THAT YtgajipaenoepiaaProg.lean LOADS. Nothing in Lean hashes anything: it is a label: what it is worth is what the hold of that sum in a sandbox is worth. -/
noncomputable def Try.pinned : Pinned := { name := "ytgajipaenoepiaa", sum := "4bfa1d288ede87471de37c62df7a1c3fa463171cb2646ddb9f4dba40591dc8ae", checked := Try.checked }
namespace Rows
def none {H : Type} : Left H := { results := [], args := [] }

/-- 'complinelaw17.LexFields': WHATEVER THE INPUT: true; the input reads as it did. -/
def lexFieldsSpec : ChangeSpec := { name := "lexFields", fn := fun _ => fun
  | [d] => { results := [.lit (.bool true)], args := [d] }
  | _ => none }
def lexFieldsRow : OpenClaim := { program := "ytgajipaenoepiaa", sum := "4bfa1d288ede87471de37c62df7a1c3fa463171cb2646ddb9f4dba40591dc8ae", func := "compline/complinelaw17.LexFields", spec := "lexFields", unfollowed := true, recurses := true, apart := false }
def LexFieldsSaid : Prop := lexFieldsRow.holds Try.pinned (OpenSpec.ofChange lexFieldsSpec)

/-- ITS FALSE NEIGHBOUR: 'it returns false'. Refute it at one input. -/
def lexFieldsWrong : ChangeSpec := { name := "lexFields", fn := fun _ => fun
  | [d] => { results := [.lit (.bool false)], args := [d] }
  | _ => none }
def LexFieldsWrongFalsely : Prop := lexFieldsRow.holds Try.pinned (OpenSpec.ofChange lexFieldsWrong)

/-- 'complinelaw17.LexValues': WHATEVER THE INPUT: true; the input reads as it did. -/
def lexValuesSpec : ChangeSpec := { name := "lexValues", fn := fun _ => fun
  | [d1, d2] => { results := [.lit (.bool true)], args := [d1, d2] }
  | _ => none }
def lexValuesRow : OpenClaim := { program := "ytgajipaenoepiaa", sum := "4bfa1d288ede87471de37c62df7a1c3fa463171cb2646ddb9f4dba40591dc8ae", func := "compline/complinelaw17.LexValues", spec := "lexValues", unfollowed := true, recurses := true, apart := false }
def LexValuesSaid : Prop := lexValuesRow.holds Try.pinned (OpenSpec.ofChange lexValuesSpec)

/-- ITS FALSE NEIGHBOUR: 'it returns false'. Refute it at one input. -/
def lexValuesWrong : ChangeSpec := { name := "lexValues", fn := fun _ => fun
  | [d1, d2] => { results := [.lit (.bool false)], args := [d1, d2] }
  | _ => none }
def LexValuesWrongFalsely : Prop := lexValuesRow.holds Try.pinned (OpenSpec.ofChange lexValuesWrong)

/-- 'complinelaw17.LexJoins': WHATEVER THE INPUT: true; the input reads as it did. -/
def lexJoinsSpec : ChangeSpec := { name := "lexJoins", fn := fun _ => fun
  | [d1, d2] => { results := [.lit (.bool true)], args := [d1, d2] }
  | _ => none }
def lexJoinsRow : OpenClaim := { program := "ytgajipaenoepiaa", sum := "4bfa1d288ede87471de37c62df7a1c3fa463171cb2646ddb9f4dba40591dc8ae", func := "compline/complinelaw17.LexJoins", spec := "lexJoins", unfollowed := true, recurses := true, apart := false }
def LexJoinsSaid : Prop := lexJoinsRow.holds Try.pinned (OpenSpec.ofChange lexJoinsSpec)

/-- ITS FALSE NEIGHBOUR: 'it returns false'. Refute it at one input. -/
def lexJoinsWrong : ChangeSpec := { name := "lexJoins", fn := fun _ => fun
  | [d1, d2] => { results := [.lit (.bool false)], args := [d1, d2] }
  | _ => none }
def LexJoinsWrongFalsely : Prop := lexJoinsRow.holds Try.pinned (OpenSpec.ofChange lexJoinsWrong)

/-- 'complinelaw17.LexCase': WHATEVER THE INPUT: true; the input reads as it did. -/
def lexCaseSpec : ChangeSpec := { name := "lexCase", fn := fun _ => fun
  | [d1, d2] => { results := [.lit (.bool true)], args := [d1, d2] }
  | _ => none }
def lexCaseRow : OpenClaim := { program := "ytgajipaenoepiaa", sum := "4bfa1d288ede87471de37c62df7a1c3fa463171cb2646ddb9f4dba40591dc8ae", func := "compline/complinelaw17.LexCase", spec := "lexCase", unfollowed := true, recurses := true, apart := false }
def LexCaseSaid : Prop := lexCaseRow.holds Try.pinned (OpenSpec.ofChange lexCaseSpec)

/-- ITS FALSE NEIGHBOUR: 'it returns false'. Refute it at one input. -/
def lexCaseWrong : ChangeSpec := { name := "lexCase", fn := fun _ => fun
  | [d1, d2] => { results := [.lit (.bool false)], args := [d1, d2] }
  | _ => none }
def LexCaseWrongFalsely : Prop := lexCaseRow.holds Try.pinned (OpenSpec.ofChange lexCaseWrong)

/-- 'complinelaw17.LexDigits': WHATEVER THE INPUT: true; the input reads as it did. -/
def lexDigitsSpec : ChangeSpec := { name := "lexDigits", fn := fun _ => fun
  | [d1, d2, d3] => { results := [.lit (.bool true)], args := [d1, d2, d3] }
  | _ => none }
def lexDigitsRow : OpenClaim := { program := "ytgajipaenoepiaa", sum := "4bfa1d288ede87471de37c62df7a1c3fa463171cb2646ddb9f4dba40591dc8ae", func := "compline/complinelaw17.LexDigits", spec := "lexDigits", unfollowed := true, recurses := true, apart := false }
def LexDigitsSaid : Prop := lexDigitsRow.holds Try.pinned (OpenSpec.ofChange lexDigitsSpec)

/-- ITS FALSE NEIGHBOUR: 'it returns false'. Refute it at one input. -/
def lexDigitsWrong : ChangeSpec := { name := "lexDigits", fn := fun _ => fun
  | [d1, d2, d3] => { results := [.lit (.bool false)], args := [d1, d2, d3] }
  | _ => none }
def LexDigitsWrongFalsely : Prop := lexDigitsRow.holds Try.pinned (OpenSpec.ofChange lexDigitsWrong)

/- THE SECOND FORM. 'bulk': how many values and letters a reading holds, each counted each time it is reached (what is shared counts as often as it is met; a slice's spare places count too). A statement '..UptoSaid' is the law's where the arguments, and the package variables that the reading takes, are together of bulk at most 1048576: NARROWER than '..Said'. Prove '..Said' where nothing that the law and all that it calls make is longer than what came in: it says more and counts as full. Else prove '..UptoSaid'. A law counts once. -/
mutual
def uptoBulk {H : Type} : DataW H → Nat
  | .lit (.string bytes) => bytes.length + 1
  | .lit _ => 1
  | .nil => 1
  | .ptr d => uptoBulk d + 1
  | .slice elems spare => uptoBulkAll elems + uptoBulkAll spare + 1
  | .agg parts => uptoBulkAll parts + 1
  | .iface _ d => uptoBulk d + 1
  | .map entries => uptoBulkEntries entries + 1
  | .held _ => 1
def uptoBulkAll {H : Type} : List (DataW H) → Nat
  | [] => 0
  | d :: r => uptoBulk d + uptoBulkAll r
def uptoBulkEntries {H : Type} : List (Lit × DataW H) → Nat
  | [] => 0
  | x :: r => uptoBulkEntry x + uptoBulkEntries r
def uptoBulkEntry {H : Type} : Lit × DataW H → Nat
  | (.string bytes, d) => bytes.length + uptoBulk d + 1
  | (_, d) => uptoBulk d + 1
 end
def uptoSmall : (H : Type) → List (DataW H) → Bool := fun _ ds => decide (uptoBulkAll ds ≤ 1048576)
def OpenSpec.upto (s : _root_.Go.ChangeSpec) : _root_.Go.OpenSpec := { _root_.Go.OpenSpec.ofChange s with cond := some uptoSmall }

/-- 'complinelaw17.LexFields', WHERE WHAT IT READS IS OF BULK AT MOST 1048576: true; the input reads as it did. -/
def lexFieldsUptoRow : OpenClaim := { program := "ytgajipaenoepiaa", sum := "4bfa1d288ede87471de37c62df7a1c3fa463171cb2646ddb9f4dba40591dc8ae", func := "compline/complinelaw17.LexFields", spec := "lexFields", unfollowed := true, recurses := true, apart := false, narrowed := true }
def LexFieldsUptoSaid : Prop := lexFieldsUptoRow.holds Try.pinned (OpenSpec.upto lexFieldsSpec)

/-- 'complinelaw17.LexValues', WHERE WHAT IT READS IS OF BULK AT MOST 1048576: true; the input reads as it did. -/
def lexValuesUptoRow : OpenClaim := { program := "ytgajipaenoepiaa", sum := "4bfa1d288ede87471de37c62df7a1c3fa463171cb2646ddb9f4dba40591dc8ae", func := "compline/complinelaw17.LexValues", spec := "lexValues", unfollowed := true, recurses := true, apart := false, narrowed := true }
def LexValuesUptoSaid : Prop := lexValuesUptoRow.holds Try.pinned (OpenSpec.upto lexValuesSpec)

/-- 'complinelaw17.LexJoins', WHERE WHAT IT READS IS OF BULK AT MOST 1048576: true; the input reads as it did. -/
def lexJoinsUptoRow : OpenClaim := { program := "ytgajipaenoepiaa", sum := "4bfa1d288ede87471de37c62df7a1c3fa463171cb2646ddb9f4dba40591dc8ae", func := "compline/complinelaw17.LexJoins", spec := "lexJoins", unfollowed := true, recurses := true, apart := false, narrowed := true }
def LexJoinsUptoSaid : Prop := lexJoinsUptoRow.holds Try.pinned (OpenSpec.upto lexJoinsSpec)

/-- 'complinelaw17.LexCase', WHERE WHAT IT READS IS OF BULK AT MOST 1048576: true; the input reads as it did. -/
def lexCaseUptoRow : OpenClaim := { program := "ytgajipaenoepiaa", sum := "4bfa1d288ede87471de37c62df7a1c3fa463171cb2646ddb9f4dba40591dc8ae", func := "compline/complinelaw17.LexCase", spec := "lexCase", unfollowed := true, recurses := true, apart := false, narrowed := true }
def LexCaseUptoSaid : Prop := lexCaseUptoRow.holds Try.pinned (OpenSpec.upto lexCaseSpec)

/-- 'complinelaw17.LexDigits', WHERE WHAT IT READS IS OF BULK AT MOST 1048576: true; the input reads as it did. -/
def lexDigitsUptoRow : OpenClaim := { program := "ytgajipaenoepiaa", sum := "4bfa1d288ede87471de37c62df7a1c3fa463171cb2646ddb9f4dba40591dc8ae", func := "compline/complinelaw17.LexDigits", spec := "lexDigits", unfollowed := true, recurses := true, apart := false, narrowed := true }
def LexDigitsUptoSaid : Prop := lexDigitsUptoRow.holds Try.pinned (OpenSpec.upto lexDigitsSpec)

end Rows
end Go.Proofs.Ytgajipaenoepiaa
