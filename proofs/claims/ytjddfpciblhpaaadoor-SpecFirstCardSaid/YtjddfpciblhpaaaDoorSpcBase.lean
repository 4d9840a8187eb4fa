/- What spec's functions tell. No condition. -/
import Derived.Test.YtjddfpciblhpaaaDoorPSpcx9
import Derived.Test.YtjddfpciblhpaaaDoorSpcFld
namespace Go.Proofs.YtjddfpciblhpaaaDoor.PSpc
open Go.RowKit Go.Proofs.YtjddfpciblhpaaaDoorW.PrintWords Go.Proofs.YtjddfpciblhpaaaDoorW.PrintLast Go.Proofs.YtjddfpciblhpaaaDoorW.PrintMore
set_option linter.unusedVariables false
set_option linter.unusedSimpArgs false
/-! What spec.Parse tells, over its words. -/
theorem Spc.word_size (s : ByteArray) (h : (Lex.fields s).2 = 0) (k : Nat) : (Spc.word (Lex.fields s).1 k).size ≤ 1000000 := by
  have key : s.size ≤ 256 ∧ (Lex.fields s).1 = Lib.goFieldsP Lex.blankN s := by
    unfold Lex.fields at h ⊢
    split at h
    · exact absurd h (by decide)
    · rename_i h1
      rw [if_neg h1]
      split at h
      · exact absurd h (by decide)
      · rename_i h2
        rw [if_neg h2]
        split at h
        · exact absurd h (by decide)
        · rename_i h3
          rw [if_neg h3]
          exact ⟨by omega, rfl⟩
  obtain ⟨hs, hl⟩ := key
  rw [hl]
  unfold Spc.word
  have hall : ∀ x ∈ Lib.goFieldsP Lex.blankN s, x.size ≤ s.size := by
    intro x hx
    unfold Lib.goFieldsP at hx
    obtain ⟨p, _, rfl⟩ := List.mem_map.1 hx
    rw [ByteArray.size_extract]
    omega
  by_cases hk : k < (Lib.goFieldsP Lex.blankN s).length
  · rw [List.getD_eq_getElem?_getD, List.getElem?_eq_getElem hk]
    have := hall _ (List.getElem_mem hk)
    simp only [Option.getD_some]
    omega
  · rw [List.getD_eq_getElem?_getD, List.getElem?_eq_none (by omega)]
    show (0 : Nat) ≤ 1000000
    omega
/-- What word i is parsed to. -/
def Spc.at_ (s : ByteArray) (i : Nat) : Int × Bool × Int := Fld.parse (Spc.word (Lex.fields s).1 i) i
theorem Spc.at_f (s : ByteArray) (h : (Lex.fields s).2 = 0) (i : Nat) : field_Parse.f (Spc.word (Lex.fields s).1 i) (i : Int) = some (Spc.at_ s i) :=
  parse_f _ _ (Spc.word_size s h i)
theorem Spc.cases (s : ByteArray) :
    ((Lex.fields s).2 ≠ 0 ∧ spec_Parse.f s = some (0, false, 0, false, 0, false, 0, false, 0, false, 0, (Lex.fields s).2)) ∨
    ((Lex.fields s).2 = 0 ∧ ∃ j : Nat, j < 5 ∧ (∀ i : Nat, i < j → (Spc.at_ s i).2.2 = 0) ∧ (Spc.at_ s j).2.2 ≠ 0 ∧ spec_Parse.f s = some (0, false, 0, false, 0, false, 0, false, 0, false, (j : Int) + 1, (Spc.at_ s j).2.2)) ∨
    ((Lex.fields s).2 = 0 ∧ (∀ i : Nat, i < 5 → (Spc.at_ s i).2.2 = 0) ∧ spec_Parse.f s = some ((Spc.at_ s 0).1, (Spc.at_ s 0).2.1, (Spc.at_ s 1).1, (Spc.at_ s 1).2.1, (Spc.at_ s 2).1, (Spc.at_ s 2).2.1, (Spc.at_ s 3).1, (Spc.at_ s 3).2.1, (Spc.at_ s 4).1, (Spc.at_ s 4).2.1, 0, 0)) := by
  unfold spec_Parse.f lex_Fields.f
  simp only [Option.bind_some]
  by_cases h : (Lex.fields s).2 ≠ 0
  · rw [if_pos h]; exact .inl ⟨h, rfl⟩
  rw [if_neg h]
  have h' : (Lex.fields s).2 = 0 := by simpa using h
  refine .inr ?_
  rw [show field_Parse.f (Spc.word (Lex.fields s).1 0) 0 = _ from Spc.at_f s h' 0]
  simp only [Option.bind_some]
  by_cases c0 : (Spc.at_ s 0).2.2 ≠ 0
  · rw [if_pos c0]; exact .inl ⟨h', 0, by omega, fun i hi => by omega, c0, rfl⟩
  rw [if_neg c0, show field_Parse.f (Spc.word (Lex.fields s).1 1) 1 = _ from Spc.at_f s h' 1]
  simp only [Option.bind_some]
  have d0 : (Spc.at_ s 0).2.2 = 0 := by simpa using c0
  by_cases c1 : (Spc.at_ s 1).2.2 ≠ 0
  · rw [if_pos c1]; exact .inl ⟨h', 1, by omega, fun i hi => by obtain rfl : i = 0 := (by omega); exact d0, c1, rfl⟩
  rw [if_neg c1, show field_Parse.f (Spc.word (Lex.fields s).1 2) 2 = _ from Spc.at_f s h' 2]
  simp only [Option.bind_some]
  have d1 : (Spc.at_ s 1).2.2 = 0 := by simpa using c1
  by_cases c2 : (Spc.at_ s 2).2.2 ≠ 0
  · rw [if_pos c2]; exact .inl ⟨h', 2, by omega, fun i hi => by rcases (by omega : i = 0 ∨ i = 1) with rfl | rfl; exact d0; exact d1, c2, rfl⟩
  rw [if_neg c2, show field_Parse.f (Spc.word (Lex.fields s).1 3) 3 = _ from Spc.at_f s h' 3]
  simp only [Option.bind_some]
  have d2 : (Spc.at_ s 2).2.2 = 0 := by simpa using c2
  by_cases c3 : (Spc.at_ s 3).2.2 ≠ 0
  · rw [if_pos c3]; exact .inl ⟨h', 3, by omega, fun i hi => by rcases (by omega : i = 0 ∨ i = 1 ∨ i = 2) with rfl | rfl | rfl; exact d0; exact d1; exact d2, c3, rfl⟩
  rw [if_neg c3, show field_Parse.f (Spc.word (Lex.fields s).1 4) 4 = _ from Spc.at_f s h' 4]
  simp only [Option.bind_some]
  have d3 : (Spc.at_ s 3).2.2 = 0 := by simpa using c3
  by_cases c4 : (Spc.at_ s 4).2.2 ≠ 0
  · rw [if_pos c4]; exact .inl ⟨h', 4, by omega, fun i hi => by rcases (by omega : i = 0 ∨ i = 1 ∨ i = 2 ∨ i = 3) with rfl | rfl | rfl | rfl; exact d0; exact d1; exact d2; exact d3, c4, rfl⟩
  have d4 : (Spc.at_ s 4).2.2 = 0 := by simpa using c4
  rw [if_neg c4]
  exact .inr ⟨h', fun i hi => by rcases (by omega : i = 0 ∨ i = 1 ∨ i = 2 ∨ i = 3 ∨ i = 4) with rfl | rfl | rfl | rfl | rfl; exact d0; exact d1; exact d2; exact d3; exact d4, rfl⟩
theorem Spc.words5 (s : ByteArray) (h : (Lex.fields s).2 = 0) : (Lex.fields s).1.length = 5 := Spc.fields_len s h
theorem Spc.check_ok (s : ByteArray) (i : Nat) (h : (Spc.at_ s i).2.2 = 0) : field_Check.f (Spc.at_ s i).1 (Spc.at_ s i).2.1 (i : Int) = some 0 := parse_check _ _ h
end Go.Proofs.YtjddfpciblhpaaaDoor.PSpc
