/- The law FieldOne, over numbers: its printed function answers true at every input. No condition. -/
import Derived.Test.YtfkhifbllpibjaaDoorPFldx14
import Derived.Test.YtfkhifbllpibjaaDoorFldLib
namespace Go.Proofs.YtfkhifbllpibjaaDoor.PFld
open Go.RowKit Go.Proofs.YtfkhifbllpibjaaDoorW.PrintWords Go.Proofs.YtfkhifbllpibjaaDoorW.PrintLast Go.Proofs.YtfkhifbllpibjaaDoorW.PrintMore
set_option linter.unusedVariables false
set_option linter.unusedSimpArgs false
theorem one_out (k : Nat) (a0 a1 : ByteArray) (a2 : Int) : complinelaw18_FieldOne.j0 (k + 1) a0 a1 a2 true true = some true := by
  unfold complinelaw18_FieldOne.j0
  exact if_pos rfl
theorem FieldOne_p : complinelaw18_FieldOne.Pure := by
  intro a b kind ha hb _
  refine ⟨1, ?_⟩
  unfold complinelaw18_FieldOne.f
  rw [show complinelaw18_works.f = some true from rfl]
  simp only [Option.bind_some, ite_true]
  by_cases h1 : (a.size : Int) > 50
  · rw [if_pos h1]; exact one_out 0 a b kind
  rw [if_neg h1]
  by_cases h2 : (b.size : Int) > 50
  · rw [decide_eq_true h2]; exact one_out 0 a b kind
  rw [decide_eq_false h2]
  unfold complinelaw18_FieldOne.j0
  dsimp only
  rw [if_neg (by decide)]
  rw [show lex_Value.f a kind = some (Lex.value a kind) from rfl, show lex_Value.f b kind = some (Lex.value b kind) from rfl, parse_f a kind (by omega), parse_f b kind (by omega)]
  simp only [Option.bind_some]
  by_cases e1 : (Lex.value a kind).2 = 0
  rotate_left
  · rw [if_neg e1]
  by_cases e2 : (Lex.value b kind).2 = 0
  rotate_left
  · rw [if_pos e1, if_neg e2]
  rw [if_pos e1, if_pos e2, parse_value a kind e1, parse_value b kind e2]
  dsimp only
  obtain ⟨hk, x1, x2⟩ := Fld.value_bd a kind e1
  obtain ⟨-, y1, y2⟩ := Fld.value_bd b kind e2
  have hd := day_eq kind _ _ hk ⟨x1, x2⟩ ⟨y1, y2⟩
  have hl := Fld.limits_bd kind hk
  have hc : field_Count.f (Fld.put 0 (Fld.day kind (Lex.value a kind).1)) false = some 1 := by
    rw [count_f _ _ (put_in _ (by unfold InU; decide)), put_zero, Int.toNat_natCast, pop_one]; rfl
  have tm : ∀ z : Int, 0 ≤ z → Int.tmod z 7 = z % 7 := fun z hz => Int.tmod_eq_emod_of_nonneg hz
  rw [hc]
  simp only [Option.bind_some, ite_true]
  generalize (Lex.value a kind).1 = X at *
  generalize (Lex.value b kind).1 = Y at *
  rw [tm X (by omega), tm Y (by omega)]
  have hbe : ∀ P : Bool, (P = true ↔ (X = Y ∨ kind = 4 ∧ X % 7 = 0 ∧ Y % 7 = 0)) → (Fld.put 0 (Fld.day kind X) == Fld.put 0 (Fld.day kind Y) && (false == false)) = P := by
    intro P hP
    rw [Bool.eq_iff_iff, hP, ← hd, Bool.and_eq_true, beq_iff_eq, put_inj]
    simp
  by_cases hxy : X = Y
  · rw [if_pos hxy, hbe true (by simp [hxy])]; rfl
  rw [if_neg hxy]
  by_cases h4 : kind = 4
  · rw [if_pos h4]
    by_cases h7 : X % 7 = 0
    · rw [if_pos h7, hbe (Y % 7 == 0) (by simp [hxy, h4, h7])]; simp
    · rw [if_neg h7, hbe false (by simp [hxy, h7])]; rfl
  · rw [if_neg h4, hbe false (by simp [hxy, h4])]; rfl
end Go.Proofs.YtfkhifbllpibjaaDoor.PFld
namespace Go.Proofs.YtfkhifbllpibjaaDoor.Pure
open Go.RowKit Go.Proofs.YtfkhifbllpibjaaDoorW.PrintWords Go.Proofs.YtfkhifbllpibjaaDoorW.PrintLast Go.Proofs.YtfkhifbllpibjaaDoorW.PrintMore Go.Proofs.YtfkhifbllpibjaaDoor.PFld
theorem FieldOne : complinelaw18_FieldOne.Pure := FieldOne_p
end Go.Proofs.YtfkhifbllpibjaaDoor.Pure
