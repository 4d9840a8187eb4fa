/- The law ShowTwice, over numbers: its printed function answers true at every input. No condition. -/
import Derived.Test.YtcmmmlenaahaeaaGreatDoorPShwx20
import Derived.Test.YtcmmmlenaahaeaaGreatDoorShwLib
namespace Go.Proofs.YtcmmmlenaahaeaaGreatDoor.PShw
open Go.RowKit Go.Proofs.YtcmmmlenaahaeaaGreatDoorW.PrintWords Go.Proofs.YtcmmmlenaahaeaaGreatDoorW.PrintLast Go.Proofs.YtcmmmlenaahaeaaGreatDoorW.PrintMore
set_option linter.unusedVariables false
set_option linter.unusedSimpArgs false
theorem ShowTwice_p:complinelaw20_ShowTwice.Pure:=by
  intro s _
  unfold complinelaw20_ShowTwice.f
  rw [show complinelaw20_works.f=some true from rfl]
  simp only [Option.bind_some,if_true]
  by_cases h1:(s.size:Int) > 300
  · rw [if_pos h1]
  rw [if_neg h1]
  rcases Shw.tidy_cases s with ⟨n,e,t,p,he,h2,h3⟩ | ⟨t,h2,h3,h4,_,b0,s0,b1,s1,b2,s2,b3,s3,b4,s4,h5,h6⟩
  · rw [Shw.tidy_f s,t]
    simp only [Option.bind_some]
    rw [if_neg he,if_pos Shw.nil_list,if_pos h2,decide_eq_true h3]
  · rw [Shw.tidy_f s,h2]
    simp only [Option.bind_some,if_true]
    rw [Shw.tidy_f t,h3,h4,h5]
    simp
end Go.Proofs.YtcmmmlenaahaeaaGreatDoor.PShw
namespace Go.Proofs.YtcmmmlenaahaeaaGreatDoor.Pure
open Go.RowKit Go.Proofs.YtcmmmlenaahaeaaGreatDoorW.PrintWords Go.Proofs.YtcmmmlenaahaeaaGreatDoorW.PrintLast Go.Proofs.YtcmmmlenaahaeaaGreatDoorW.PrintMore Go.Proofs.YtcmmmlenaahaeaaGreatDoor.PShw
theorem ShowTwice:complinelaw20_ShowTwice.Pure:=ShowTwice_p
end Go.Proofs.YtcmmmlenaahaeaaGreatDoor.Pure
