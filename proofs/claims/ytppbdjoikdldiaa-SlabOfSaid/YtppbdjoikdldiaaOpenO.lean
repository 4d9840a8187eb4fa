/- Numbers, handles: opened from what came in. -/
import Derived.Test.YtppbdjoikdldiaaSoD
import Derived.WalkKit
import Derived.ProofKit
import Derived.OpenShut
import Derived.ChangeOld
import Derived.Below
import Derived.SizedLaws
import Derived.Carry
import Derived.ChangeArms
import Derived.WideShapes
import Derived.ChangeSlices
import Derived.DataElems
namespace Go.Proofs.Ytppbdjoikdldiaa.Open
open Go.ChangeShapes Go.WideShapes Go.ChangeAt Go.RowKit
open Go.Proofs.YtppbdjoikdldiaaW.PrintWords Go.Proofs.YtppbdjoikdldiaaW.PrintLast Go.Proofs.YtppbdjoikdldiaaW.PrintMore
open Go.Proofs.Ytppbdjoikdldiaa.PSlabOf
set_option linter.unusedVariables false
set_option linter.unusedSimpArgs false
section
variable {H : Type} {enc : TypeId × Value → H} {w : World} {base : Nat} {spare : Nat → Bool} {held : Bool} {fuel : Nat} {cs : List Value} {x : DataW H × List MemPlace}
theorem open_t30 (h : DataW.trod enc Try.prog w base spare held fuel 30 cs = some x) : ∃ (a0 a1 : Int), cs = [.int .i64 a0, .int .i64 a1] := by
  obtain ⟨xs, n, _, hx, hlen, hxl, hf⟩ := DataW.trod_struct Try.underlying30 h
  have hl : cs.length = 2 := hlen.trans (by kernel_rfl)
  have hxl' : xs.length = 2 := hxl
  match cs, hl with
  | [c0, c1], _ =>
  match xs, hxl' with
  | [y0, y1], _ =>
    have e0 : Try.prog.cellsOf 3 = 1 := by kernel_rfl
    have f0 : DataW.trod enc Try.prog w base spare held n 3 [c0] = some y0 := by have z := hf 0 _ rfl; simpa [e0] using z
    obtain ⟨b0, q0, p0, w0⟩ := DataW.trod_int Try.underlying3 f0
    obtain rfl : c0 = _ := by simpa using q0
    have f1 : DataW.trod enc Try.prog w base spare held n 3 [c1] = some y1 := by have z := hf 1 _ rfl; simpa [e0] using z
    obtain ⟨b1, q1, p1, w1⟩ := DataW.trod_int Try.underlying3 f1
    obtain rfl : c1 = _ := by simpa using q1
    exact ⟨b0, b1, rfl⟩
def numAt (w : World) (a : Addr) (j : Nat) : Int := match w.cell? (a.add j) with | some (.int _ n) => n | _ => 0
theorem numAt_of {a : Addr} {j : Nat} {k : IntKind} {n : Int} (h : w.cell? (a.add j) = some (.int k n)) : numAt w a j = n := by unfold numAt; rw [h]
theorem open_handles {a : Option Addr} {len cap : Nat} (h : DataW.trod enc Try.prog w base spare held fuel 28 [.slice a len cap] = some x) : ∃ l : List S30, len = l.length ∧ Kd.C k30 w a l.length l ∧ l.length ≤ cap := by
  rcases DataW.trod_slice Try.underlying28 h with ⟨hcs, _⟩ | ⟨ad, len', cap', elems, rest, n, _, hcs, _, hb, hl, hm, hlen, hel, _, _⟩
  · simp at hcs
    obtain ⟨rfl, rfl, rfl⟩ := hcs
    exact ⟨[], rfl, ⟨rfl, by simp, fun h => absurd h (by simp)⟩, by simp⟩
  · simp at hcs
    obtain ⟨rfl, rfl, rfl⟩ := hcs
    have e4 : Try.prog.cellsOf 30 = 2 := by kernel_rfl
    have hlR : ((List.range len).map fun i => (⟨numAt w ad (i * 2), numAt w ad (i * 2 + 1)⟩ : S30)).length = len := by simp
    refine ⟨(List.range len).map fun i => (⟨numAt w ad (i * 2), numAt w ad (i * 2 + 1)⟩ : S30), hlR.symm, ?_, by rw [hlR]; exact hl⟩
    rw [hlR]
    refine ⟨hlR, by have : maxLen = 9223372036854775807 := rfl; omega, fun _ => ⟨ad, rfl, fun j p hj => ?_⟩⟩
    obtain ⟨hj1, hj2⟩ := List.getElem?_eq_some_iff.mp hj
    have hjl : j < len := by simpa using hj1
    have hy := hel j hjl
    rw [e4, List.getElem?_eq_getElem (by omega)] at hy
    obtain ⟨cs', hcs', ht⟩ := Option.bind_eq_some_iff.mp hy
    obtain ⟨b0, b1, rfl⟩ := open_t30 ht
    have hcell := (World.cells?_some hcs').2.2
    have g0 : w.cell? (ad.add (j * 2)) = some (.int .i64 b0) := by have := hcell 0 (by omega); rwa [Addr.add_add] at this
    have g1 : w.cell? (ad.add (j * 2 + 1)) = some (.int .i64 b1) := by have := hcell 1 (by omega); rwa [Addr.add_add] at this
    have hp : p = ⟨b0, b1⟩ := by
      rw [← hj2]
      simp only [List.getElem_map, List.getElem_range]
      rw [numAt_of g0, numAt_of g1]
    subst hp
    refine ⟨_, rfl, k30_mk w _, ?_⟩
    intro i u hu
    have e : k30.sz = 2 := rfl
    rw [e]
    match i, hu with
    | 0, hu => injection hu with hu; subst hu; exact g0
    | 1, hu => injection hu with hu; subst hu; exact g1
theorem open_nums {a : Option Addr} {len cap : Nat} (h : DataW.trod enc Try.prog w base spare held fuel 42 [.slice a len cap] = some x) : ∃ l : List Int, len = l.length ∧ Kd.C (Kd.int .i64) w a l.length l ∧ l.length ≤ cap := by
  rcases DataW.trod_slice Try.underlying42 h with ⟨hcs, _⟩ | ⟨ad, len', cap', elems, rest, n, _, hcs, _, hb, hl, hm, hlen, hel, _, _⟩
  · simp at hcs
    obtain ⟨rfl, rfl, rfl⟩ := hcs
    exact ⟨[], rfl, ⟨rfl, by simp, fun h => absurd h (by simp)⟩, by simp⟩
  · simp at hcs
    obtain ⟨rfl, rfl, rfl⟩ := hcs
    have e4 : Try.prog.cellsOf 3 = 1 := by kernel_rfl
    have hlR : ((List.range len).map fun i => numAt w ad i).length = len := by simp
    refine ⟨(List.range len).map fun i => numAt w ad i, hlR.symm, ?_, by rw [hlR]; exact hl⟩
    rw [hlR]
    refine ⟨hlR, by have : maxLen = 9223372036854775807 := rfl; omega, fun _ => ⟨ad, rfl, fun j p hj => ?_⟩⟩
    obtain ⟨hj1, hj2⟩ := List.getElem?_eq_some_iff.mp hj
    have hjl : j < len := by simpa using hj1
    have hy := hel j hjl
    rw [e4, List.getElem?_eq_getElem (by omega)] at hy
    obtain ⟨cs', hcs', ht⟩ := Option.bind_eq_some_iff.mp hy
    obtain ⟨b0, q0, p0, w0⟩ := DataW.trod_int Try.underlying3 ht
    obtain rfl : cs' = _ := q0
    have hcell := (World.cells?_some hcs').2.2
    have g0 : w.cell? (ad.add (j)) = some (.int .i64 b0) := by have := hcell 0 (by omega); simpa [Addr.add_add] using this
    have hp : p = b0 := by
      rw [← hj2]
      simp only [List.getElem_map, List.getElem_range]
      rw [numAt_of g0]
    subst hp
    refine ⟨_, rfl, rfl, ?_⟩
    intro i u hu
    have e : (Kd.int .i64).sz = 1 := rfl
    rw [e]
    match i, hu with
    | 0, hu => injection hu with hu; subst hu; simpa using g0
end
end Go.Proofs.Ytppbdjoikdldiaa.Open
