/- The law SpecMay, over numbers: its printed function answers true at every input. No condition. -/
import Derived.Test.YtjddfpciblhpaaaDoorPSpcx13
import Derived.Test.YtjddfpciblhpaaaDoorSpcBase
namespace Go.Proofs.YtjddfpciblhpaaaDoor.PSpc
open Go.RowKit Go.Proofs.YtjddfpciblhpaaaDoorW.PrintWords Go.Proofs.YtjddfpciblhpaaaDoorW.PrintLast Go.Proofs.YtjddfpciblhpaaaDoorW.PrintMore
set_option linter.unusedVariables false
set_option linter.unusedSimpArgs false
theorem SpecMay_round (s : ByteArray) (h : (Lex.fields s).2 = 0) (ha : ∀ i : Nat, i < 5 → (Spc.at_ s i).2.2 = 0) (k i : Nat) (hi : i < 5) :
    complinelaw19_SpecMay.l0 (k + 1) true (Lex.fields s).1 (i : Int) (Spc.at_ s 0).1 (Spc.at_ s 0).2.1 (Spc.at_ s 1).1 (Spc.at_ s 1).2.1 (Spc.at_ s 2).1 (Spc.at_ s 2).2.1 (Spc.at_ s 3).1 (Spc.at_ s 3).2.1 (Spc.at_ s 4).1 (Spc.at_ s 4).2.1
      = complinelaw19_SpecMay.l0 k true (Lex.fields s).1 ((i + 1 : Nat) : Int) (Spc.at_ s 0).1 (Spc.at_ s 0).2.1 (Spc.at_ s 1).1 (Spc.at_ s 1).2.1 (Spc.at_ s 2).1 (Spc.at_ s 2).2.1 (Spc.at_ s 3).1 (Spc.at_ s 3).2.1 (Spc.at_ s 4).1 (Spc.at_ s 4).2.1 := by
  have hg : spec_Get.f (Spc.at_ s 0).1 (Spc.at_ s 0).2.1 (Spc.at_ s 1).1 (Spc.at_ s 1).2.1 (Spc.at_ s 2).1 (Spc.at_ s 2).2.1 (Spc.at_ s 3).1 (Spc.at_ s 3).2.1 (Spc.at_ s 4).1 (Spc.at_ s 4).2.1 (i : Int) = some ((Spc.at_ s i).1, (Spc.at_ s i).2.1, 0) := by
    unfold spec_Get.f
    rcases (by omega : i = 0 ∨ i = 1 ∨ i = 2 ∨ i = 3 ∨ i = 4) with rfl | rfl | rfl | rfl | rfl <;> rfl
  have hw : wrap64 ((i : Int) + 1) = ((i + 1 : Nat) : Int) := by unfold wrap64; omega
  have hr : rdOf ByteArray.empty (Lex.fields s).1 (i : Int) = Spc.word (Lex.fields s).1 i := by unfold rdOf Spc.word; rw [Int.toNat_natCast]; rfl
  rw [complinelaw19_SpecMay.l0, if_pos (by omega), hg]
  simp only [Option.bind_some]
  rw [if_pos (by omega), if_pos (by rw [Spc.words5 s h]; omega), hr, Spc.at_f s h i]
  simp only [Option.bind_some]
  rw [if_pos trivial, if_pos (ha i hi), if_neg (by simp), hw]
theorem SpecMay_p : complinelaw19_SpecMay.Pure := by
  intro s hs
  refine ⟨8, ?_⟩
  unfold complinelaw19_SpecMay.f
  rw [show complinelaw19_works.f = some true from rfl]
  simp only [Option.bind_some, if_true]
  by_cases h300 : (s.size : Int) > 300
  · rw [if_pos h300]
  rw [if_neg h300]
  rcases Spc.cases s with ⟨he, hp⟩ | ⟨h0, j, hj, hlt, he, hp⟩ | ⟨h0, ha, hp⟩
  · rw [hp]
    simp only [Option.bind_some]
    rw [if_neg he]
    rfl
  · rw [hp]
    simp only [Option.bind_some]
    rw [if_neg he]
    rcases (by omega : j = 0 ∨ j = 1 ∨ j = 2 ∨ j = 3 ∨ j = 4) with rfl | rfl | rfl | rfl | rfl <;> rfl
  · rw [hp]
    simp only [Option.bind_some, if_true]
    have hc : spec_Check.f (Spc.at_ s 0).1 (Spc.at_ s 0).2.1 (Spc.at_ s 1).1 (Spc.at_ s 1).2.1 (Spc.at_ s 2).1 (Spc.at_ s 2).2.1 (Spc.at_ s 3).1 (Spc.at_ s 3).2.1 (Spc.at_ s 4).1 (Spc.at_ s 4).2.1 = some (0, 0) := by
      unfold spec_Check.f
      rw [show field_Check.f (Spc.at_ s 0).1 (Spc.at_ s 0).2.1 0 = _ from Spc.check_ok s 0 (ha 0 (by omega)), show field_Check.f (Spc.at_ s 1).1 (Spc.at_ s 1).2.1 1 = _ from Spc.check_ok s 1 (ha 1 (by omega)), show field_Check.f (Spc.at_ s 2).1 (Spc.at_ s 2).2.1 2 = _ from Spc.check_ok s 2 (ha 2 (by omega)), show field_Check.f (Spc.at_ s 3).1 (Spc.at_ s 3).2.1 3 = _ from Spc.check_ok s 3 (ha 3 (by omega)), show field_Check.f (Spc.at_ s 4).1 (Spc.at_ s 4).2.1 4 = _ from Spc.check_ok s 4 (ha 4 (by omega))]
      rfl
    rw [hc, show lex_Fields.f s = some (Lex.fields s) from rfl]
    simp only [Option.bind_some, if_true]
    rw [if_pos h0, complinelaw19_SpecMay.j0, if_neg (by rw [Spc.words5 s h0]; decide)]
    rw [show (0 : Int) = ((0 : Nat) : Int) from rfl, SpecMay_round s h0 ha 6 0 (by omega), SpecMay_round s h0 ha 5 1 (by omega), SpecMay_round s h0 ha 4 2 (by omega), SpecMay_round s h0 ha 3 3 (by omega), SpecMay_round s h0 ha 2 4 (by omega)]
    rw [complinelaw19_SpecMay.l0, if_neg (by omega)]
end Go.Proofs.YtjddfpciblhpaaaDoor.PSpc
namespace Go.Proofs.YtjddfpciblhpaaaDoor.Pure
open Go.RowKit Go.Proofs.YtjddfpciblhpaaaDoorW.PrintWords Go.Proofs.YtjddfpciblhpaaaDoorW.PrintLast Go.Proofs.YtjddfpciblhpaaaDoorW.PrintMore Go.Proofs.YtjddfpciblhpaaaDoor.PSpc
theorem SpecMay : complinelaw19_SpecMay.Pure := SpecMay_p
end Go.Proofs.YtjddfpciblhpaaaDoor.Pure
