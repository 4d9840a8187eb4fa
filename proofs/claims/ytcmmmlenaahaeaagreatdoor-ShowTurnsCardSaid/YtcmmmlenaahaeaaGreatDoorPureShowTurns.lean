/- The law ShowTurns, over numbers: its printed function answers true at every input. No condition. -/
import Derived.Test.YtcmmmlenaahaeaaGreatDoorPShwx20
import Derived.Test.YtcmmmlenaahaeaaGreatDoorShwLib
namespace Go.Proofs.YtcmmmlenaahaeaaGreatDoor.PShw
open Go.RowKit Go.Proofs.YtcmmmlenaahaeaaGreatDoorW.PrintWords Go.Proofs.YtcmmmlenaahaeaaGreatDoorW.PrintLast Go.Proofs.YtcmmmlenaahaeaaGreatDoorW.PrintMore
set_option linter.unusedVariables false
set_option linter.unusedSimpArgs false
theorem ShowTurns_p (b0:Int)(s0:Bool)(b1:Int)(s1:Bool)(b2:Int)(s2:Bool)(b3:Int)(s3:Bool)(b4:Int)(s4:Bool)(u0:(Lit.int .u64 b0).wf=true)(u1:(Lit.int .u64 b1).wf=true)(u2:(Lit.int .u64 b2).wf=true)(u3:(Lit.int .u64 b3).wf=true)(u4:(Lit.int .u64 b4).wf=true):complinelaw20_ShowTurns.f b0 s0 b1 s1 b2 s2 b3 s3 b4 s4=some true:=by
  replace u0:=Shw.wf u0
  replace u1:=Shw.wf u1
  replace u2:=Shw.wf u2
  replace u3:=Shw.wf u3
  replace u4:=Shw.wf u4
  unfold complinelaw20_ShowTurns.f
  rw [show complinelaw20_works.f=some true from rfl]
  simp only [Option.bind_some,if_true]
  rcases Shw.spec_cases (s0:=s0) (s1:=s1) (s2:=s2) (s3:=s3) (s4:=s4) u0 u1 u2 u3 u4 with ⟨n,e,h,_,he,h1,h2⟩ | ⟨h,_,p,_⟩
  · rw [Shw.spec_f u0 u1 u2 u3 u4,h]
    simp only [Option.bind_some]
    rw [if_neg he,if_pos Shw.nil_list,if_pos h1,decide_eq_true h2]
  · rw [Shw.spec_f u0 u1 u2 u3 u4,h]
    simp only [Option.bind_some,if_true]
    rw [p]
    simp [spec_Same.f]
end Go.Proofs.YtcmmmlenaahaeaaGreatDoor.PShw
namespace Go.Proofs.YtcmmmlenaahaeaaGreatDoor.Pure
open Go.RowKit Go.Proofs.YtcmmmlenaahaeaaGreatDoorW.PrintWords Go.Proofs.YtcmmmlenaahaeaaGreatDoorW.PrintLast Go.Proofs.YtcmmmlenaahaeaaGreatDoorW.PrintMore Go.Proofs.YtcmmmlenaahaeaaGreatDoor.PShw
theorem ShowTurns:∀ (a0_0:Int)(a0_1:Bool)(a0_2:Int)(a0_3:Bool)(a0_4:Int)(a0_5:Bool)(a0_6:Int)(a0_7:Bool)(a0_8:Int)(a0_9:Bool),(Lit.int .u64 a0_0).wf=true→(Lit.int .u64 a0_2).wf=true→(Lit.int .u64 a0_4).wf=true→(Lit.int .u64 a0_6).wf=true→(Lit.int .u64 a0_8).wf=true→complinelaw20_ShowTurns.f a0_0 a0_1 a0_2 a0_3 a0_4 a0_5 a0_6 a0_7 a0_8 a0_9=some true:=fun a0_0 a0_1 a0_2 a0_3 a0_4 a0_5 a0_6 a0_7 a0_8 a0_9 h0_ h1_ h2_ h3_ h4_=>ShowTurns_p a0_0 a0_1 a0_2 a0_3 a0_4 a0_5 a0_6 a0_7 a0_8 a0_9 h0_ h1_ h2_ h3_ h4_
end Go.Proofs.YtcmmmlenaahaeaaGreatDoor.Pure
