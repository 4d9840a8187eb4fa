/-
  No cell of these rows narrows 'for every input' (looked for: loops, veiled, ifaces, maps, wideKeys, modest, calm, conditions, laid).
  DERIVED. THE GIVEN ROWS OF THIS SEAT. 6 by the template 'for every input the law returns true; each argument reads behind the call as it read before'; 0 by the template 'total and deterministic' (their statements: YtppbdjoikdldiaaTotals.lean).
  GIVEN WITH THE SEED: the statements are not yours to turn. If you find one false, say at which input.
  Laid BY PROGRAM, IN A SANDBOX (cutbox-rows.mjs): the forced cells as the released guide's own fill.sh prints them over the translation 10eefd6657fcfd07… (all of the seat's roots in one cut). By AI agents, Wed Nov 11 2026. No macro, syntax, notation, axiom, sorry.
-/
import Derived.Test.YtppbdjoikdldiaaChecked
import GoSem.Claim
import GoSem.ClaimJoined
import GoSem.ClaimMapViews
import Derived.JoinedTies
import Derived.KernelRfl
namespace Go.Proofs.Ytppbdjoikdldiaa
/- THE CELL 'sum', in the pinned program and in every row, IS THE sha256 OF THE DUMP (.gsa) THAT YtppbdjoikdldiaaProg.lean LOADS. Nothing in Lean hashes anything: it is a label: what it is worth is what the hold of that sum in a sandbox is worth. -/
noncomputable def Try.pinned : Pinned := { name := "ytppbdjoikdldiaa", sum := "10eefd6657fcfd073df40842d5faad05bd863f8a71622801defd8040cecb0440", checked := Try.checked }
namespace Rows
def none {H : Type} : Left H := { results := [], args := [] }

/-- 'complinelaw05.SlabFresh': WHATEVER THE INPUT: true; the input reads as it did. -/
def slabFreshSpec : ChangeSpec := { name := "slabFresh", fn := fun _ => fun
  | [d1, d2, d3] => { results := [.lit (.bool true)], args := [d1, d2, d3] }
  | _ => none }
def slabFreshRow : OpenClaim := { program := "ytppbdjoikdldiaa", sum := "10eefd6657fcfd073df40842d5faad05bd863f8a71622801defd8040cecb0440", func := "compline/complinelaw05.SlabFresh", spec := "slabFresh", unfollowed := true, recurses := true, apart := false }
def SlabFreshSaid : Prop := slabFreshRow.holds Try.pinned (OpenSpec.ofChange slabFreshSpec)

/-- ITS FALSE NEIGHBOUR: 'it returns false'. Refute it at one input. -/
def slabFreshWrong : ChangeSpec := { name := "slabFresh", fn := fun _ => fun
  | [d1, d2, d3] => { results := [.lit (.bool false)], args := [d1, d2, d3] }
  | _ => none }
def SlabFreshWrongFalsely : Prop := slabFreshRow.holds Try.pinned (OpenSpec.ofChange slabFreshWrong)

/-- 'complinelaw05.SlabLast': WHATEVER THE INPUT: true; the input reads as it did. -/
def slabLastSpec : ChangeSpec := { name := "slabLast", fn := fun _ => fun
  | [d1, d2, d3, d4] => { results := [.lit (.bool true)], args := [d1, d2, d3, d4] }
  | _ => none }
def slabLastRow : OpenClaim := { program := "ytppbdjoikdldiaa", sum := "10eefd6657fcfd073df40842d5faad05bd863f8a71622801defd8040cecb0440", func := "compline/complinelaw05.SlabLast", spec := "slabLast", unfollowed := true, recurses := true, apart := false }
def SlabLastSaid : Prop := slabLastRow.holds Try.pinned (OpenSpec.ofChange slabLastSpec)

/-- ITS FALSE NEIGHBOUR: 'it returns false'. Refute it at one input. -/
def slabLastWrong : ChangeSpec := { name := "slabLast", fn := fun _ => fun
  | [d1, d2, d3, d4] => { results := [.lit (.bool false)], args := [d1, d2, d3, d4] }
  | _ => none }
def SlabLastWrongFalsely : Prop := slabLastRow.holds Try.pinned (OpenSpec.ofChange slabLastWrong)

/-- 'complinelaw05.SlabWears': WHATEVER THE INPUT: true; the input reads as it did. -/
def slabWearsSpec : ChangeSpec := { name := "slabWears", fn := fun _ => fun
  | [d] => { results := [.lit (.bool true)], args := [d] }
  | _ => none }
def slabWearsRow : OpenClaim := { program := "ytppbdjoikdldiaa", sum := "10eefd6657fcfd073df40842d5faad05bd863f8a71622801defd8040cecb0440", func := "compline/complinelaw05.SlabWears", spec := "slabWears", unfollowed := true, recurses := true, apart := false }
def SlabWearsSaid : Prop := slabWearsRow.holds Try.pinned (OpenSpec.ofChange slabWearsSpec)

/-- ITS FALSE NEIGHBOUR: 'it returns false'. Refute it at one input. -/
def slabWearsWrong : ChangeSpec := { name := "slabWears", fn := fun _ => fun
  | [d] => { results := [.lit (.bool false)], args := [d] }
  | _ => none }
def SlabWearsWrongFalsely : Prop := slabWearsRow.holds Try.pinned (OpenSpec.ofChange slabWearsWrong)

/-- 'complinelaw05.SlabPlays': WHATEVER THE INPUT: true; the input reads as it did. -/
def slabPlaysSpec : ChangeSpec := { name := "slabPlays", fn := fun _ => fun
  | [d1, d2, d3] => { results := [.lit (.bool true)], args := [d1, d2, d3] }
  | _ => none }
def slabPlaysRow : OpenClaim := { program := "ytppbdjoikdldiaa", sum := "10eefd6657fcfd073df40842d5faad05bd863f8a71622801defd8040cecb0440", func := "compline/complinelaw05.SlabPlays", spec := "slabPlays", unfollowed := true, recurses := true, apart := false }
def SlabPlaysSaid : Prop := slabPlaysRow.holds Try.pinned (OpenSpec.ofChange slabPlaysSpec)

/-- ITS FALSE NEIGHBOUR: 'it returns false'. Refute it at one input. -/
def slabPlaysWrong : ChangeSpec := { name := "slabPlays", fn := fun _ => fun
  | [d1, d2, d3] => { results := [.lit (.bool false)], args := [d1, d2, d3] }
  | _ => none }
def SlabPlaysWrongFalsely : Prop := slabPlaysRow.holds Try.pinned (OpenSpec.ofChange slabPlaysWrong)

/-- 'complinelaw05.SlabImages': WHATEVER THE INPUT: true; the input reads as it did. -/
def slabImagesSpec : ChangeSpec := { name := "slabImages", fn := fun _ => fun
  | [d1, d2, d3, d4] => { results := [.lit (.bool true)], args := [d1, d2, d3, d4] }
  | _ => none }
def slabImagesRow : OpenClaim := { program := "ytppbdjoikdldiaa", sum := "10eefd6657fcfd073df40842d5faad05bd863f8a71622801defd8040cecb0440", func := "compline/complinelaw05.SlabImages", spec := "slabImages", unfollowed := true, recurses := true, apart := false }
def SlabImagesSaid : Prop := slabImagesRow.holds Try.pinned (OpenSpec.ofChange slabImagesSpec)

/-- ITS FALSE NEIGHBOUR: 'it returns false'. Refute it at one input. -/
def slabImagesWrong : ChangeSpec := { name := "slabImages", fn := fun _ => fun
  | [d1, d2, d3, d4] => { results := [.lit (.bool false)], args := [d1, d2, d3, d4] }
  | _ => none }
def SlabImagesWrongFalsely : Prop := slabImagesRow.holds Try.pinned (OpenSpec.ofChange slabImagesWrong)

/-- 'complinelaw05.SlabOf': WHATEVER THE INPUT: true; the input reads as it did. -/
def slabOfSpec : ChangeSpec := { name := "slabOf", fn := fun _ => fun
  | [d1, d2, d3, d4, d5] => { results := [.lit (.bool true)], args := [d1, d2, d3, d4, d5] }
  | _ => none }
def slabOfRow : OpenClaim := { program := "ytppbdjoikdldiaa", sum := "10eefd6657fcfd073df40842d5faad05bd863f8a71622801defd8040cecb0440", func := "compline/complinelaw05.SlabOf", spec := "slabOf", unfollowed := true, recurses := true, apart := false }
def SlabOfSaid : Prop := slabOfRow.holds Try.pinned (OpenSpec.ofChange slabOfSpec)

/-- ITS FALSE NEIGHBOUR: 'it returns false'. Refute it at one input. -/
def slabOfWrong : ChangeSpec := { name := "slabOf", fn := fun _ => fun
  | [d1, d2, d3, d4, d5] => { results := [.lit (.bool false)], args := [d1, d2, d3, d4, d5] }
  | _ => none }
def SlabOfWrongFalsely : Prop := slabOfRow.holds Try.pinned (OpenSpec.ofChange slabOfWrong)

/- THE SECOND FORM. 'bulk': how many values and letters a reading holds, each counted each time it is reached (what is shared counts as often as it is met; a slice's spare places count too). A statement '..UptoSaid' is the law's where the arguments, and the package variables that the reading takes, are together of bulk at most 1048576: NARROWER than '..Said'. Prove '..Said' where nothing that the law and all that it calls make is longer than what came in: it says more and counts as full. Else prove '..UptoSaid'. A law counts once. -/
mutual
def uptoBulk {H : Type} : DataW H → Nat
  | .lit (.string bytes) => bytes.length + 1
  | .lit _ => 1
  | .nil => 1
  | .ptr d => uptoBulk d + 1
  | .slice elems spare => uptoBulkAll elems + uptoBulkAll spare + 1
  | .agg parts => uptoBulkAll parts + 1
  | .iface _ d => uptoBulk d + 1
  | .map entries => uptoBulkEntries entries + 1
  | .held _ => 1
def uptoBulkAll {H : Type} : List (DataW H) → Nat
  | [] => 0
  | d :: r => uptoBulk d + uptoBulkAll r
def uptoBulkEntries {H : Type} : List (Lit × DataW H) → Nat
  | [] => 0
  | x :: r => uptoBulkEntry x + uptoBulkEntries r
def uptoBulkEntry {H : Type} : Lit × DataW H → Nat
  | (.string bytes, d) => bytes.length + uptoBulk d + 1
  | (_, d) => uptoBulk d + 1
 end
def uptoSmall : (H : Type) → List (DataW H) → Bool := fun _ ds => decide (uptoBulkAll ds ≤ 1048576)
def OpenSpec.upto (s : _root_.Go.ChangeSpec) : _root_.Go.OpenSpec := { _root_.Go.OpenSpec.ofChange s with cond := some uptoSmall }

/-- 'complinelaw05.SlabFresh', WHERE WHAT IT READS IS OF BULK AT MOST 1048576: true; the input reads as it did. -/
def slabFreshUptoRow : OpenClaim := { program := "ytppbdjoikdldiaa", sum := "10eefd6657fcfd073df40842d5faad05bd863f8a71622801defd8040cecb0440", func := "compline/complinelaw05.SlabFresh", spec := "slabFresh", unfollowed := true, recurses := true, apart := false, narrowed := true }
def SlabFreshUptoSaid : Prop := slabFreshUptoRow.holds Try.pinned (OpenSpec.upto slabFreshSpec)

/-- 'complinelaw05.SlabLast', WHERE WHAT IT READS IS OF BULK AT MOST 1048576: true; the input reads as it did. -/
def slabLastUptoRow : OpenClaim := { program := "ytppbdjoikdldiaa", sum := "10eefd6657fcfd073df40842d5faad05bd863f8a71622801defd8040cecb0440", func := "compline/complinelaw05.SlabLast", spec := "slabLast", unfollowed := true, recurses := true, apart := false, narrowed := true }
def SlabLastUptoSaid : Prop := slabLastUptoRow.holds Try.pinned (OpenSpec.upto slabLastSpec)

/-- 'complinelaw05.SlabWears', WHERE WHAT IT READS IS OF BULK AT MOST 1048576: true; the input reads as it did. -/
def slabWearsUptoRow : OpenClaim := { program := "ytppbdjoikdldiaa", sum := "10eefd6657fcfd073df40842d5faad05bd863f8a71622801defd8040cecb0440", func := "compline/complinelaw05.SlabWears", spec := "slabWears", unfollowed := true, recurses := true, apart := false, narrowed := true }
def SlabWearsUptoSaid : Prop := slabWearsUptoRow.holds Try.pinned (OpenSpec.upto slabWearsSpec)

/-- 'complinelaw05.SlabPlays', WHERE WHAT IT READS IS OF BULK AT MOST 1048576: true; the input reads as it did. -/
def slabPlaysUptoRow : OpenClaim := { program := "ytppbdjoikdldiaa", sum := "10eefd6657fcfd073df40842d5faad05bd863f8a71622801defd8040cecb0440", func := "compline/complinelaw05.SlabPlays", spec := "slabPlays", unfollowed := true, recurses := true, apart := false, narrowed := true }
def SlabPlaysUptoSaid : Prop := slabPlaysUptoRow.holds Try.pinned (OpenSpec.upto slabPlaysSpec)

/-- 'complinelaw05.SlabImages', WHERE WHAT IT READS IS OF BULK AT MOST 1048576: true; the input reads as it did. -/
def slabImagesUptoRow : OpenClaim := { program := "ytppbdjoikdldiaa", sum := "10eefd6657fcfd073df40842d5faad05bd863f8a71622801defd8040cecb0440", func := "compline/complinelaw05.SlabImages", spec := "slabImages", unfollowed := true, recurses := true, apart := false, narrowed := true }
def SlabImagesUptoSaid : Prop := slabImagesUptoRow.holds Try.pinned (OpenSpec.upto slabImagesSpec)

/-- 'complinelaw05.SlabOf', WHERE WHAT IT READS IS OF BULK AT MOST 1048576: true; the input reads as it did. -/
def slabOfUptoRow : OpenClaim := { program := "ytppbdjoikdldiaa", sum := "10eefd6657fcfd073df40842d5faad05bd863f8a71622801defd8040cecb0440", func := "compline/complinelaw05.SlabOf", spec := "slabOf", unfollowed := true, recurses := true, apart := false, narrowed := true }
def SlabOfUptoSaid : Prop := slabOfUptoRow.holds Try.pinned (OpenSpec.upto slabOfSpec)

end Rows
end Go.Proofs.Ytppbdjoikdldiaa
