/- The law FieldMay, over numbers: its printed function answers true at every input. No condition. -/
import Derived.Test.YtfkhifbllpibjaaDoorPFldx12
import Derived.Test.YtfkhifbllpibjaaDoorFldLib
namespace Go.Proofs.YtfkhifbllpibjaaDoor.PFld
open Go.RowKit Go.Proofs.YtfkhifbllpibjaaDoorW.PrintWords Go.Proofs.YtfkhifbllpibjaaDoorW.PrintLast Go.Proofs.YtfkhifbllpibjaaDoorW.PrintMore
set_option linter.unusedVariables false
set_option linter.unusedSimpArgs false
theorem FieldMay_p : complinelaw18_FieldMay.Pure := by
  intro s kind hs _
  unfold complinelaw18_FieldMay.f
  rw [show complinelaw18_works.f = some true from rfl]
  simp only [Option.bind_some, ite_true]
  by_cases h300 : (s.size : Int) > 300
  · rw [if_pos h300]
  rw [if_neg h300, parse_f s kind (by omega)]
  simp only [Option.bind_some]
  by_cases he : (Fld.parse s kind).2.2 = 0
  · rw [if_pos he, parse_check s kind he]
    obtain ⟨hk, hin, hst, _, ⟨i, hi⟩, _⟩ := parse_in s kind he
    simp only [Option.bind_some, ite_true]
    rw [hst, if_pos (by simp), count_f _ _ hin]
    simp only [Option.bind_some]
    have hp : 0 < popN 64 (Fld.parse s kind).1.toNat := by
      obtain ⟨n, hn, hn2⟩ := nat_of _ hin
      rw [hn] at hi ⊢
      have hn0 : n ≠ 0 := by intro e; rw [e] at hi; simp [bitAt] at hi
      exact popN_pos 64 n hn0 hn2
    generalize popN 64 (Fld.parse s kind).1.toNat = P at hp ⊢
    exact congrArg some (decide_eq_true (by omega))
  · rw [if_neg he, parse_err s kind he]
    rfl
end Go.Proofs.YtfkhifbllpibjaaDoor.PFld
namespace Go.Proofs.YtfkhifbllpibjaaDoor.Pure
open Go.RowKit Go.Proofs.YtfkhifbllpibjaaDoorW.PrintWords Go.Proofs.YtfkhifbllpibjaaDoorW.PrintLast Go.Proofs.YtfkhifbllpibjaaDoorW.PrintMore Go.Proofs.YtfkhifbllpibjaaDoor.PFld
theorem FieldMay : complinelaw18_FieldMay.Pure := FieldMay_p
end Go.Proofs.YtfkhifbllpibjaaDoor.Pure
