/- What the rows' list of package variables gives to the walks, and a world for the witnesses. No condition. -/
import Derived.Test.YtcjfjicagopppaaGreatDoorPDayx7
import Derived.Test.YtcjfjicagopppaaGreatDoorTie
import Derived.Test.YtcjfjicagopppaaGreatDoorCards
import Derived.WalkKit
import Derived.ProofKit
import Derived.OpenShut
import Derived.Deep.DeepHandedRow
import Derived.Deep.DeepWitnessRowRef
import Derived.Lib.LaidTab
import Derived.LaidHandle
import Derived.LaidLaws
import Derived.Shelf.LaysM
import Derived.SevenTiedAt
namespace Go.Proofs.YtcjfjicagopppaaGreatDoor.Laid
open Go.ChangeShapes Go.WideShapes Go.ChangeAt Go.RowKit
abbrev L : List (String × DataW Unit) := [("unicode/utf8.acceptRanges", Rows.laid_unicode_utf8_acceptRanges), ("errors.errorType", Rows.laid_errors_errorType), ("unicode/utf8.first", Rows.laid_unicode_utf8_first)]
noncomputable def base (os : Os) : World := World.holding Tryz.prog os ⟨#[], #[], []⟩
noncomputable def world (os : Os) : World := { base os with heap := ((((base os).heap.modify 3 fun | .cells _ t frozen => .cells #[.int .u8 128, .int .u8 191, .int .u8 160, .int .u8 191, .int .u8 128, .int .u8 159, .int .u8 144, .int .u8 191, .int .u8 128, .int .u8 143, .int .u8 0, .int .u8 0, .int .u8 0, .int .u8 0, .int .u8 0, .int .u8 0, .int .u8 0, .int .u8 0, .int .u8 0, .int .u8 0, .int .u8 0, .int .u8 0, .int .u8 0, .int .u8 0, .int .u8 0, .int .u8 0, .int .u8 0, .int .u8 0, .int .u8 0, .int .u8 0, .int .u8 0, .int .u8 0] t frozen | o => o).modify 0 fun | .cells _ t frozen => .cells #[.iface 139 (.agg #[.pointer (some ⟨4, 98, none⟩)])] t frozen | o => o).modify 2 fun | .cells _ t frozen => .cells (Go.Pinned.utf8FirstZ.map fun z : Nat => Value.int .u8 (z : Int)).toArray t frozen | o => o) }
set_option maxRecDepth 1000000 in
theorem met (os : Os) (args : Array Value) : laidMetH Tryz.prog L ((world os).forCall (fun _ _ => 0) ⟨#[], args, []⟩).memory :=
  laidMetH_of_parts (laidMet_of_run' 8 (by kernel_rfl) (by kernel_rfl)) (by kernel_rfl)
theorem et : Tryz.prog.globalNamed "errors.errorType" = some 0 := by kernel_rfl
theorem rt : (Tryz.prog.cutTypes.find? (·.1 == "internal/reflectlite.rtype")).map (·.2) = some 139 := by kernel_rfl
theorem oneRow : ((List.range 186).filter fun t => Tryz.prog.rowNamed t [101, 114, 114, 111, 114]) = [98] := by kernel_rfl
theorem size : Tryz.prog.types.size = 186 := by kernel_rfl
theorem handle {W : World} (h : handlesMet Tryz.prog [("errors.errorType", Rows.laid_errors_errorType)] W) : W.cell? ⟨0, 0, none⟩ = some (.iface 139 (.agg #[.pointer (some ⟨4, 98, none⟩)])) := by
  obtain ⟨name, u, ty, e1, e2, e3, e4, e5⟩ := h _ (List.mem_singleton.2 rfl)
  have en : name = [101, 114, 114, 111, 114] := (Option.some.inj e1).symm
  subst en
  obtain rfl := Option.some.inj (rt.symm.trans e2)
  have hm : ty ∈ (List.range 186).filter fun t => Tryz.prog.rowNamed t [101, 114, 114, 111, 114] := List.mem_filter.2 ⟨List.mem_range.2 (by rw [← size]; exact e3), e4⟩
  rw [oneRow] at hm
  obtain rfl := List.mem_singleton.1 hm
  have hh : typeHandle Tryz.prog 98 = .pointer (some ⟨4, 98, none⟩) := by kernel_rfl
  rw [hh] at e5
  simpa using World.var?_cell et e5 0
theorem tab {W : World} (h : laidMetH Tryz.prog L W) (hs : W.ShapedOpen Tryz.prog) : PDay.Tab W := by
  have h' : laidMet Tryz.prog (L.filter fun x => x.2.handleName?.isNone) W ∧ handlesMet Tryz.prog [("errors.errorType", Rows.laid_errors_errorType)] W := h
  exact ⟨trivial, handle h'.2, Go.Proofs.cell_of_shapedOpen_int (zero := #[.int .i64 0]) (t := 3) hs (of_decide_eq_true (by kernel_rfl)) (by kernel_rfl) rfl (by kernel_rfl) (by kernel_rfl) Tryz.underlying3⟩
end Go.Proofs.YtcjfjicagopppaaGreatDoor.Laid
