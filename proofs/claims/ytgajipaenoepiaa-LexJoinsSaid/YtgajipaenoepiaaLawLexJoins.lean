/- The row of the law LexJoins: for every input it answers true, and its arguments read as before. No condition. -/
import Derived.Test.YtgajipaenoepiaaRows
import Derived.Test.YtgajipaenoepiaaPureLexJoins
import Derived.WalkKit
import Derived.ProofKit
import Derived.OpenShut
import Derived.ShutString
import Derived.ChangeOld
import Derived.Below
import Derived.SizedLaws
import Derived.Carry
import Derived.ChangeArms
import Derived.WideShapes
import Derived.SliceStrings
import Derived.ChangeSlices
namespace Go.Proofs.Ytgajipaenoepiaa.lexJoins
open Go.ChangeShapes Go.WideShapes Go.ChangeAt Go.RowKit
open Go.ChangeMaps (open_string shut_string)
open Go.Proofs.YtgajipaenoepiaaW.PrintWords
theorem own : ownKnob Try.prog.godebug = none := by kernel_rfl
theorem laidOut : laidOutB Try.prog = true := by kernel_rfl
theorem mem_weights {H : Type} {P : Program} {e : TypeId} : ∀ (l : List ByteArray) (s : ByteArray), s ∈ l → s.data.toList.length ∈ DataW.weightsAll P e (strs (H := H) l)
  | [], _, h => by cases h
  | x :: l, s, h => by
    simp only [strs, List.map_cons, DataW.weightsAll, DataW.weights, List.mem_append, List.mem_singleton]
    rcases List.mem_cons.1 h with rfl | h
    · exact .inl rfl
    · exact .inr (mem_weights l s h)
theorem sized_strs {H : Type} {P : Program} {ts : List TypeId} {ds : List (DataW H)} (h : (DataW.weightsEach P ts ds).all (· ≤ reachBytes) = true) {j : Nat} {t e : TypeId} {l : List ByteArray} {sp : List (DataW H)} (ht : ts[j]? = some t) (hd : ds[j]? = some (.slice (strs l) sp)) (hu : P.underlying t = some (.slice e)) (s : ByteArray) (hs : s ∈ l) : s.size ≤ 140737488351232 := by
  have := List.all_eq_true.1 h _ (DataW.weights_mem_each ht hd s.data.toList.length (by simp only [DataW.weights, hu]; exact List.mem_cons_of_mem _ (List.mem_append_left _ (mem_weights l s hs))))
  have h2 : s.data.toList.length ≤ reachBytes := by simpa using this
  rw [Array.length_toList] at h2
  exact h2
set_option maxRecDepth 100000 in
theorem lifted (os : Os) (started : os.Started) (H : Type) (enc : TypeId × Value → H) :
    ReturnsInHanded {} Try.checked os 5 .any (Rows.lexJoinsSpec.pre6 enc Try.prog Try.f5 Rows.lexJoinsRow.domain false) (Rows.lexJoinsSpec.post enc Try.prog Try.f5 false true false false) := by
  refine returnsInHanded_of_change_sized (C := Try.checked) own started (by kernel_rfl) Try.func5
    (ChangeSpec.witness6 (enc := enc) (C := Try.checked) false ⟨#[], #[.slice none 0 0, .slice none 0 0], []⟩ 8 (by kernel_rfl) (by kernel_rfl) (by kernel_rfl) (by kernel_rfl)) ?_
  intro W base args ds gs before hval0 hW hcnd hsz0 _
  have hsz : (DataW.weightsEach Try.prog (Try.f5.params.toList ++ Rows.lexJoinsSpec.plain.varTypes Try.prog) (ds ++ gs)).all (· ≤ reachBytes) = true := hsz0
  have hval : ∀ (j : Nat) t v, Try.f5.params[j]? = some t → args[j]? = some v → Value.okWide Try.prog W .any base t v := hval0
  have hW' := hW
  obtain ⟨p, q, hA0, hV, rfl, hfz, hnd⟩ := hW
  have hA : DataW.TrodAll enc Try.prog W 0 (fun _ => true) true Try.f5.params.toList args.toList ds p := hA0
  rw [Try.params5] at hA hval hsz
  obtain ⟨v0, vs0, d0, ds0, p0, q0, hargs, rfl, rfl, h0, r0⟩ := trodAll_cons hA
  obtain ⟨v1, vs1, d1, ds1, p1, q1, rfl, rfl, rfl, h1, r1⟩ := trodAll_cons r0
  obtain ⟨rfl, rfl, rfl⟩ := trodAll_nil r1
  obtain rfl : args = #[v0, v1] := by cases args; simp_all
  obtain ⟨rfl, rfl⟩ := trodVars_none hV
  obtain ⟨a0, len0, cap0, rfl⟩ := okWide_slice Try.underlying23 (hval 0 23 v0 rfl rfl)
  have k0 := h0
  have lt0 : ∀ x ∈ p0, x.block < W.heap.size := by obtain ⟨m, hm⟩ := k0; exact DataW.trod_lt m _ _ _ hm
  obtain ⟨l0, e0, hr0, hc0, hw0⟩ : ∃ l : List ByteArray, len0 = l.length ∧ Kd.C Kd.string W a0 l.length l ∧ l.length ≤ cap0 ∧ ∀ s ∈ l, s.size ≤ 140737488351232 := by
    obtain ⟨fuel, hf⟩ := h0
    rcases open_strings Try.underlying23 Try.underlying9 (by kernel_rfl) hf with ⟨hcs, _⟩ | ⟨x, l, c, zs, hcs, _, hl, hm, hz, hx, hcell, _⟩
    · simp [Value.cells] at hcs
      obtain ⟨rfl, rfl, rfl⟩ := hcs
      exact ⟨[], rfl, Kd.C_of_reads (d := ByteArray.empty) ⟨rfl, by simp, fun h => absurd h (by simp)⟩, by simp, by simp⟩
    · simp [Value.cells] at hcs
      obtain ⟨rfl, rfl, rfl⟩ := hcs
      have hz' : zs.length = cap0 := by simpa using hz
      obtain ⟨hx0, _⟩ := Prod.mk.inj hx
      subst hx0
      have hlen : (zs.take len0).length = len0 := by rw [List.length_take, hz']; omega
      refine ⟨zs.take len0, hlen.symm, Kd.C_of_reads (d := ByteArray.empty) ⟨rfl, ?_, fun _ => ⟨x, rfl, fun j hj => ?_⟩⟩, by rw [hlen]; exact hl, sized_strs (j := 0) (t := 23) hsz rfl rfl Try.underlying23⟩
      · rw [hlen]; have : maxLen = 9223372036854775807 := rfl; omega
      · rw [hlen] at hj
        rw [hcell j (by omega)]
        congr 2
        rw [List.getD_eq_getElem?_getD, List.getD_eq_getElem?_getD, List.getElem?_take, if_pos hj]
  obtain ⟨a1, len1, cap1, rfl⟩ := okWide_slice Try.underlying35 (hval 1 35 v1 rfl rfl)
  have k1 := h1
  have lt1 : ∀ x ∈ p1, x.block < W.heap.size := by obtain ⟨m, hm⟩ := k1; exact DataW.trod_lt m _ _ _ hm
  obtain ⟨l1, e1, hr1, hc1⟩ : ∃ l : List Int, len1 = l.length ∧ Kd.C (Kd.int .i64) W a1 l.length l ∧ l.length ≤ cap1 := by
    obtain ⟨fuel, hf⟩ := h1
    rcases open_ints Try.underlying35 Try.underlying3 (by kernel_rfl) hf with ⟨hcs, _⟩ | ⟨x, l, c, zs, hcs, _, hl, hm, hz, _, hcell, _⟩
    · simp [Value.cells] at hcs
      obtain ⟨rfl, rfl, rfl⟩ := hcs
      exact ⟨[], rfl, Kd.C_of_reads (d := (0 : Int)) ⟨rfl, by simp, fun h => absurd h (by simp)⟩, by simp⟩
    · simp [Value.cells] at hcs
      obtain ⟨rfl, rfl, rfl⟩ := hcs
      have hz' : zs.length = cap1 := by simpa using hz
      have hlen : (zs.take len1).length = len1 := by rw [List.length_take, hz']; omega
      refine ⟨zs.take len1, hlen.symm, Kd.C_of_reads (d := (0 : Int)) ⟨rfl, ?_, fun _ => ⟨x, rfl, fun j hj => ?_⟩⟩, by rw [hlen]; exact hl⟩
      · rw [hlen]; have : maxLen = 9223372036854775807 := rfl; omega
      · rw [hlen] at hj
        rw [hcell j (by omega)]
        congr 2
        rw [List.getD_eq_getElem?_getD, List.getD_eq_getElem?_getD, List.getElem?_take, if_pos hj]
  clear hA0 hval0 hsz0 hsz
  subst e0 e1
  obtain ⟨k, h⟩ := Pure.LexJoins l0 l1 hw0
  refine (PLex.complinelaw17_LexJoins.calls k a0 cap0 l0 a1 cap1 l1 true W hr0 hc0 hr1 hc1 h).mono fun e W' ⟨he, bel⟩ => ?_
  subst he
  exact ⟨_, rfl, _, _, _, [], _, [], hW', trodAll_mk1 (shut_bool Try.underlying4 _), (trodAll_cons_mk (Below.trod laidOut (by kernel_rfl) (of_decide_eq_true (by kernel_rfl)) k0 bel lt0) (trodAll_cons_mk (Below.trod laidOut (by kernel_rfl) (of_decide_eq_true (by kernel_rfl)) k1 bel lt1) trodAll_mk0)), rfl, bel.frame _, fun h => by cases h⟩
theorem over : Rows.lexJoinsRow.holds Try.pinned (OpenSpec.ofChange Rows.lexJoinsSpec) :=
  OpenClaim.holds_of_wide 5 Try.f5 rfl rfl rfl rfl rfl rfl rfl ⟨rfl, rfl, rfl, rfl, rfl⟩ rfl rfl rfl rfl rfl (by kernel_rfl) Try.func5 (by kernel_rfl)
    (of_decide_eq_true (by kernel_rfl)) (by unfold Func.isWrapper; first | (rw [if_pos (by decide +kernel)]; kernel_rfl) | (rw [if_neg (by decide +kernel)]; exact ⟨rfl, rfl⟩))
    (fun os started H enc _ => lifted os started H enc)
theorem proved : Rows.LexJoinsSaid := over
#print axioms proved
end Go.Proofs.Ytgajipaenoepiaa.lexJoins
namespace Go.Proofs.Ytgajipaenoepiaa
/-- The row, under a short name, for the claim. -/
theorem lexJoins_holds : Rows.LexJoinsSaid := lexJoins.proved
end Go.Proofs.Ytgajipaenoepiaa
