/- Acts, handles: opened from what came in. -/
import Derived.Test.YtppbdjoikdldiaaSpD
import Derived.WalkKit
import Derived.ProofKit
import Derived.OpenShut
import Derived.ChangeOld
import Derived.Below
import Derived.SizedLaws
import Derived.Carry
import Derived.ChangeArms
import Derived.WideShapes
import Derived.ChangeSlices
import Derived.DataElems
namespace Go.Proofs.Ytppbdjoikdldiaa.OpenP
open Go.ChangeShapes Go.WideShapes Go.ChangeAt Go.RowKit
open Go.Proofs.YtppbdjoikdldiaaW.PrintWords Go.Proofs.YtppbdjoikdldiaaW.PrintLast Go.Proofs.YtppbdjoikdldiaaW.PrintMore
open Go.Proofs.Ytppbdjoikdldiaa.PSlabPlays
set_option linter.unusedVariables false
set_option linter.unusedSimpArgs false
section
variable {H : Type} {enc : TypeId × Value → H} {w : World} {base : Nat} {spare : Nat → Bool} {held : Bool} {fuel : Nat} {cs : List Value} {x : DataW H × List MemPlace}
theorem open_t30 (h : DataW.trod enc Try.prog w base spare held fuel 30 cs = some x) : ∃ (a0 a1 : Int), cs = [.int .i64 a0, .int .i64 a1] := by
  obtain ⟨xs, n, _, hx, hlen, hxl, hf⟩ := DataW.trod_struct Try.underlying30 h
  have hl : cs.length = 2 := hlen.trans (by kernel_rfl)
  have hxl' : xs.length = 2 := hxl
  match cs, hl with
  | [c0, c1], _ =>
  match xs, hxl' with
  | [y0, y1], _ =>
    have e0 : Try.prog.cellsOf 3 = 1 := by kernel_rfl
    have f0 : DataW.trod enc Try.prog w base spare held n 3 [c0] = some y0 := by have z := hf 0 _ rfl; simpa [e0] using z
    obtain ⟨b0, q0, p0, w0⟩ := DataW.trod_int Try.underlying3 f0
    obtain rfl : c0 = _ := by simpa using q0
    have f1 : DataW.trod enc Try.prog w base spare held n 3 [c1] = some y1 := by have z := hf 1 _ rfl; simpa [e0] using z
    obtain ⟨b1, q1, p1, w1⟩ := DataW.trod_int Try.underlying3 f1
    obtain rfl : c1 = _ := by simpa using q1
    exact ⟨b0, b1, rfl⟩
theorem open_t32 (h : DataW.trod enc Try.prog w base spare held fuel 32 cs = some x) : ∃ (a0 a1 a2 a3 : Int), cs = [.int .i64 a0, .int .i64 a1, .int .i64 a2, .int .i64 a3] := by
  obtain ⟨xs, n, _, hx, hlen, hxl, hf⟩ := DataW.trod_struct Try.underlying32 h
  have hl : cs.length = 4 := hlen.trans (by kernel_rfl)
  have hxl' : xs.length = 3 := hxl
  match cs, hl with
  | [c0, c1, c2, c3], _ =>
  match xs, hxl' with
  | [y0, y1, y2], _ =>
    have e0 : Try.prog.cellsOf 3 = 1 := by kernel_rfl
    have e2 : Try.prog.cellsOf 30 = 2 := by kernel_rfl
    have f0 : DataW.trod enc Try.prog w base spare held n 3 [c0] = some y0 := by have z := hf 0 _ rfl; simpa [e0] using z
    obtain ⟨b0, q0, p0, w0⟩ := DataW.trod_int Try.underlying3 f0
    obtain rfl : c0 = _ := by simpa using q0
    have f1 : DataW.trod enc Try.prog w base spare held n 3 [c1] = some y1 := by have z := hf 1 _ rfl; simpa [e0] using z
    obtain ⟨b1, q1, p1, w1⟩ := DataW.trod_int Try.underlying3 f1
    obtain rfl : c1 = _ := by simpa using q1
    have f2 : DataW.trod enc Try.prog w base spare held n 30 [c2, c3] = some y2 := by have z := hf 2 _ rfl; simpa [e2] using z
    obtain ⟨b2, b3, q2⟩ := open_t30 f2
    simp only [List.cons.injEq, and_true] at q2
    obtain ⟨rfl, rfl⟩ := q2
    exact ⟨b0, b1, b2, b3, rfl⟩
def numAt (w : World) (a : Addr) (j : Nat) : Int := match w.cell? (a.add j) with | some (.int _ n) => n | _ => 0
theorem numAt_of {a : Addr} {j : Nat} {k : IntKind} {n : Int} (h : w.cell? (a.add j) = some (.int k n)) : numAt w a j = n := by unfold numAt; rw [h]
theorem open_acts {a : Option Addr} {len cap : Nat} (h : DataW.trod enc Try.prog w base spare held fuel 22 [.slice a len cap] = some x) : ∃ l : List S32, len = l.length ∧ Kd.C k32 w a l.length l ∧ l.length ≤ cap := by
  rcases DataW.trod_slice Try.underlying22 h with ⟨hcs, _⟩ | ⟨ad, len', cap', elems, rest, n, _, hcs, _, hb, hl, hm, hlen, hel, _, _⟩
  · simp at hcs
    obtain ⟨rfl, rfl, rfl⟩ := hcs
    exact ⟨[], rfl, ⟨rfl, by simp, fun h => absurd h (by simp)⟩, by simp⟩
  · simp at hcs
    obtain ⟨rfl, rfl, rfl⟩ := hcs
    have e4 : Try.prog.cellsOf 32 = 4 := by kernel_rfl
    have hlR : ((List.range len).map fun i => (⟨numAt w ad (i * 4), numAt w ad (i * 4 + 1), numAt w ad (i * 4 + 2), numAt w ad (i * 4 + 3)⟩ : S32)).length = len := by simp
    refine ⟨(List.range len).map fun i => ⟨numAt w ad (i * 4), numAt w ad (i * 4 + 1), numAt w ad (i * 4 + 2), numAt w ad (i * 4 + 3)⟩, hlR.symm, ?_, by rw [hlR]; exact hl⟩
    rw [hlR]
    refine ⟨hlR, by have : maxLen = 9223372036854775807 := rfl; omega, fun _ => ⟨ad, rfl, fun j p hj => ?_⟩⟩
    obtain ⟨hj1, hj2⟩ := List.getElem?_eq_some_iff.mp hj
    have hjl : j < len := by simpa using hj1
    have hy := hel j hjl
    rw [e4, List.getElem?_eq_getElem (by omega)] at hy
    obtain ⟨cs', hcs', ht⟩ := Option.bind_eq_some_iff.mp hy
    obtain ⟨b0, b1, b2, b3, rfl⟩ := open_t32 ht
    have hcell := (World.cells?_some hcs').2.2
    have g0 : w.cell? (ad.add (j * 4)) = some (.int .i64 b0) := by have := hcell 0 (by omega); rwa [Addr.add_add] at this
    have g1 : w.cell? (ad.add (j * 4 + 1)) = some (.int .i64 b1) := by have := hcell 1 (by omega); rwa [Addr.add_add] at this
    have g2 : w.cell? (ad.add (j * 4 + 2)) = some (.int .i64 b2) := by have := hcell 2 (by omega); rwa [Addr.add_add] at this
    have g3 : w.cell? (ad.add (j * 4 + 3)) = some (.int .i64 b3) := by have := hcell 3 (by omega); rwa [Addr.add_add] at this
    have hp : p = ⟨b0, b1, b2, b3⟩ := by
      rw [← hj2]
      simp only [List.getElem_map, List.getElem_range]
      rw [numAt_of g0, numAt_of g1, numAt_of g2, numAt_of g3]
    subst hp
    refine ⟨_, rfl, k32_mk w _, ?_⟩
    intro i u hu
    have e : k32.sz = 4 := rfl
    rw [e]
    match i, hu with
    | 0, hu => injection hu with hu; subst hu; exact g0
    | 1, hu => injection hu with hu; subst hu; exact g1
    | 2, hu => injection hu with hu; subst hu; exact g2
    | 3, hu => injection hu with hu; subst hu; exact g3
end
end Go.Proofs.Ytppbdjoikdldiaa.OpenP
