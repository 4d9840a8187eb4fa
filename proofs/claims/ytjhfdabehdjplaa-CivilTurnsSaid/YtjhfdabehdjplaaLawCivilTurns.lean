/- The row of the law CivilTurns: for every input it answers true, and its arguments read as before. No condition. -/
import Derived.Test.YtjhfdabehdjplaaRows
import Derived.Test.YtjhfdabehdjplaaPureCivilTurns
import Derived.WalkKit
import Derived.ProofKit
import Derived.OpenShut
import Derived.ShutString
import Derived.ChangeOld
import Derived.Below
import Derived.SizedLaws
import Derived.Carry
import Derived.ChangeArms
import Derived.WideShapes
namespace Go.Proofs.Ytjhfdabehdjplaa.civilTurns
open Go.ChangeShapes Go.WideShapes Go.ChangeAt Go.RowKit
open Go.ChangeMaps (open_string shut_string)
theorem own : ownKnob Try.prog.godebug = none := by kernel_rfl
theorem laidOut : laidOutB Try.prog = true := by kernel_rfl
theorem open_t33 {H : Type} {enc : TypeId × Value → H} {w : World} {base : Nat} {spare : Nat → Bool} {held : Bool} {fuel : Nat} {cs : List Value} {x : DataW H × List MemPlace} (h : DataW.trod enc Try.prog w base spare held fuel 33 cs = some x) :
    ∃ (a0 : Int) (a1 : Int) (a2 : Int) (a3 : Int) (a4 : Int) (a5 : Int), cs = [.int .i64 a0, .int .i64 a1, .int .i64 a2, .int .i64 a3, .int .i64 a4, .int .i64 a5] ∧ x.2 = [] ∧ (Lit.int .i64 a0).wf = true ∧ (Lit.int .i64 a1).wf = true ∧ (Lit.int .i64 a2).wf = true ∧ (Lit.int .i64 a3).wf = true ∧ (Lit.int .i64 a4).wf = true ∧ (Lit.int .i64 a5).wf = true := by
  obtain ⟨xs, n, _, hx, hlen, hxl, hf⟩ := DataW.trod_struct Try.underlying33 h
  have hl : cs.length = 6 := hlen.trans (by kernel_rfl)
  have hxl' : xs.length = 6 := hxl
  match cs, hl with
  | [c0, c1, c2, c3, c4, c5], _ =>
  match xs, hxl' with
  | [y0, y1, y2, y3, y4, y5], _ =>
    have e0 : Try.prog.cellsOf 3 = 1 := by kernel_rfl
    have f0 : DataW.trod enc Try.prog w base spare held n 3 [c0] = some y0 := by have z := hf 0 _ rfl; simpa [e0] using z
    obtain ⟨b0, q0, p0, w0⟩ := DataW.trod_int Try.underlying3 f0
    obtain rfl : c0 = _ := by simpa using q0
    have e1 : Try.prog.cellsOf 3 = 1 := by kernel_rfl
    have f1 : DataW.trod enc Try.prog w base spare held n 3 [c1] = some y1 := by have z := hf 1 _ rfl; simpa [e1] using z
    obtain ⟨b1, q1, p1, w1⟩ := DataW.trod_int Try.underlying3 f1
    obtain rfl : c1 = _ := by simpa using q1
    have e2 : Try.prog.cellsOf 3 = 1 := by kernel_rfl
    have f2 : DataW.trod enc Try.prog w base spare held n 3 [c2] = some y2 := by have z := hf 2 _ rfl; simpa [e2] using z
    obtain ⟨b2, q2, p2, w2⟩ := DataW.trod_int Try.underlying3 f2
    obtain rfl : c2 = _ := by simpa using q2
    have e3 : Try.prog.cellsOf 3 = 1 := by kernel_rfl
    have f3 : DataW.trod enc Try.prog w base spare held n 3 [c3] = some y3 := by have z := hf 3 _ rfl; simpa [e3] using z
    obtain ⟨b3, q3, p3, w3⟩ := DataW.trod_int Try.underlying3 f3
    obtain rfl : c3 = _ := by simpa using q3
    have e4 : Try.prog.cellsOf 3 = 1 := by kernel_rfl
    have f4 : DataW.trod enc Try.prog w base spare held n 3 [c4] = some y4 := by have z := hf 4 _ rfl; simpa [e4] using z
    obtain ⟨b4, q4, p4, w4⟩ := DataW.trod_int Try.underlying3 f4
    obtain rfl : c4 = _ := by simpa using q4
    have e5 : Try.prog.cellsOf 3 = 1 := by kernel_rfl
    have f5 : DataW.trod enc Try.prog w base spare held n 3 [c5] = some y5 := by have z := hf 5 _ rfl; simpa [e5] using z
    obtain ⟨b5, q5, p5, w5⟩ := DataW.trod_int Try.underlying3 f5
    obtain rfl : c5 = _ := by simpa using q5
    exact ⟨b0, b1, b2, b3, b4, b5, rfl, by rw [hx]; simp [p0, p1, p2, p3, p4, p5], w0, w1, w2, w3, w4, w5⟩
set_option maxRecDepth 100000 in
theorem lifted (os : Os) (started : os.Started) (H : Type) (enc : TypeId × Value → H) :
    ReturnsInHanded {} Try.checked os 9 .any (Rows.civilTurnsSpec.pre6 enc Try.prog Try.f9 Rows.civilTurnsRow.domain false) (Rows.civilTurnsSpec.post enc Try.prog Try.f9 false true false false) := by
  refine returnsInHanded_of_change_sized (C := Try.checked) own started (by kernel_rfl) Try.func9
    (ChangeSpec.witness6 (enc := enc) (C := Try.checked) false ⟨#[], #[.int .i64 0, .agg #[.int .i64 0, .int .i64 0, .int .i64 0, .int .i64 0, .int .i64 0, .int .i64 0]], []⟩ 8 (by kernel_rfl) (by kernel_rfl) (by kernel_rfl) (by kernel_rfl)) ?_
  intro W base args ds gs before hval0 hW hcnd hsz0 _
  have hsz : (DataW.weightsEach Try.prog (Try.f9.params.toList ++ Rows.civilTurnsSpec.plain.varTypes Try.prog) (ds ++ gs)).all (· ≤ reachBytes) = true := hsz0
  have hval : ∀ (j : Nat) t v, Try.f9.params[j]? = some t → args[j]? = some v → Value.okWide Try.prog W .any base t v := hval0
  have hW' := hW
  obtain ⟨p, q, hA0, hV, rfl, hfz, hnd⟩ := hW
  have hA : DataW.TrodAll enc Try.prog W 0 (fun _ => true) true Try.f9.params.toList args.toList ds p := hA0
  rw [Try.params9] at hA hval hsz
  obtain ⟨v0, vs0, d0, ds0, p0, q0, hargs, rfl, rfl, h0, r0⟩ := trodAll_cons hA
  obtain ⟨v1, vs1, d1, ds1, p1, q1, rfl, rfl, rfl, h1, r1⟩ := trodAll_cons r0
  obtain ⟨rfl, rfl, rfl⟩ := trodAll_nil r1
  obtain rfl : args = #[v0, v1] := by cases args; simp_all
  obtain ⟨rfl, rfl⟩ := trodVars_none hV
  obtain ⟨a0, rfl, rfl, rfl, w0⟩ := open_int Try.underlying3 (hval 0 3 v0 rfl rfl) h0
  have k1 := h1
  have lt1 : ∀ x ∈ p1, x.block < W.heap.size := by obtain ⟨m, hm⟩ := k1; exact DataW.trod_lt m _ _ _ hm
  obtain ⟨cs1, rfl, _⟩ := okWide_struct Try.underlying33 (hval 1 33 v1 rfl rfl)
  obtain ⟨fuel1, hf1⟩ := h1
  obtain ⟨a1_0, a1_1, a1_2, a1_3, a1_4, a1_5, hc1, hp1, w1_0, w1_1, w1_2, w1_3, w1_4, w1_5⟩ := open_t33 hf1
  obtain rfl : cs1 = #[.int .i64 a1_0, .int .i64 a1_1, .int .i64 a1_2, .int .i64 a1_3, .int .i64 a1_4, .int .i64 a1_5] := by apply Array.ext'; simpa [Value.cells] using hc1
  clear hA0 hval0 hsz0 hsz
  obtain ⟨k, h⟩ := Pure.CivilTurns a0 a1_0 a1_1 a1_2 a1_3 a1_4 a1_5 w0 w1_0 w1_1 w1_2 w1_3 w1_4 w1_5
  refine (PCiv.complinelaw16_CivilTurns.calls k a0 a1_0 a1_1 a1_2 a1_3 a1_4 a1_5 true W h).mono fun e W' ⟨he, bel⟩ => ?_
  subst he
  exact ⟨_, rfl, _, _, _, [], _, [], hW', trodAll_mk1 (shut_bool Try.underlying4 _), (trodAll_cons_mk (shut_int Try.underlying3 w0) (trodAll_cons_mk (Below.trod laidOut (by kernel_rfl) (of_decide_eq_true (by kernel_rfl)) k1 bel lt1) trodAll_mk0)), rfl, bel.frame _, fun h => by cases h⟩
theorem over : Rows.civilTurnsRow.holds Try.pinned (OpenSpec.ofChange Rows.civilTurnsSpec) :=
  OpenClaim.holds_of_wide 9 Try.f9 rfl rfl rfl rfl rfl rfl rfl ⟨rfl, rfl, rfl, rfl, rfl⟩ rfl rfl rfl rfl rfl (by kernel_rfl) Try.func9 (by kernel_rfl)
    (of_decide_eq_true (by kernel_rfl)) (by unfold Func.isWrapper; first | (rw [if_pos (by decide +kernel)]; kernel_rfl) | (rw [if_neg (by decide +kernel)]; exact ⟨rfl, rfl⟩))
    (fun os started H enc _ => lifted os started H enc)
theorem proved : Rows.CivilTurnsSaid := over
#print axioms proved
end Go.Proofs.Ytjhfdabehdjplaa.civilTurns
namespace Go.Proofs.Ytjhfdabehdjplaa
/-- The row, under a short name, for the claim. -/
theorem civilTurns_holds : Rows.CivilTurnsSaid := civilTurns.proved
end Go.Proofs.Ytjhfdabehdjplaa
