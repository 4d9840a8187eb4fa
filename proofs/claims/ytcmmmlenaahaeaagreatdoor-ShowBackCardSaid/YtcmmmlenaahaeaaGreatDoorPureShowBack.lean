/- The law ShowBack, over numbers: its printed function answers true at every input. No condition. -/
import Derived.Test.YtcmmmlenaahaeaaGreatDoorPShwx19
import Derived.Test.YtcmmmlenaahaeaaGreatDoorShwLib
namespace Go.Proofs.YtcmmmlenaahaeaaGreatDoor.PShw
open Go.RowKit Go.Proofs.YtcmmmlenaahaeaaGreatDoorW.PrintWords Go.Proofs.YtcmmmlenaahaeaaGreatDoorW.PrintLast Go.Proofs.YtcmmmlenaahaeaaGreatDoorW.PrintMore
set_option linter.unusedVariables false
set_option linter.unusedSimpArgs false
theorem ShowBack_p (b:Int)(s:Bool)(kind:Int)(hb:(Lit.int .u64 b).wf=true)(_:(Lit.int .i64 kind).wf=true):complinelaw20_ShowBack.f b s kind=some true:=by
  replace hb:=Shw.wf hb
  unfold complinelaw20_ShowBack.f
  rw [show complinelaw20_works.f=some true from rfl]
  simp only [Option.bind_some,if_true]
  rcases Shw.field_cases b s kind hb with ⟨e,he,c,f⟩ | ⟨c,f,p,_,_⟩
  · rw [show show_Field.f b s kind=some (⟨#[]⟩,e) from f]
    simp only [Option.bind_some]
    rw [if_neg he,if_pos Shw.nil_list,c]
    simp
  · rw [show show_Field.f b s kind=some (Shw.ftext b s,0) from f]
    simp only [Option.bind_some,if_true]
    rw [p]
    simp
end Go.Proofs.YtcmmmlenaahaeaaGreatDoor.PShw
namespace Go.Proofs.YtcmmmlenaahaeaaGreatDoor.Pure
open Go.RowKit Go.Proofs.YtcmmmlenaahaeaaGreatDoorW.PrintWords Go.Proofs.YtcmmmlenaahaeaaGreatDoorW.PrintLast Go.Proofs.YtcmmmlenaahaeaaGreatDoorW.PrintMore Go.Proofs.YtcmmmlenaahaeaaGreatDoor.PShw
theorem ShowBack:∀ (a0_0:Int)(a0_1:Bool)(a1:Int),(Lit.int .u64 a0_0).wf=true→(Lit.int .i64 a1).wf=true→complinelaw20_ShowBack.f a0_0 a0_1 a1=some true:=fun a0_0 a0_1 a1 h0_ h1_=>ShowBack_p a0_0 a0_1 a1 h0_ h1_
end Go.Proofs.YtcmmmlenaahaeaaGreatDoor.Pure
