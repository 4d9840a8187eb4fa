/- The law ShowFields, over numbers: its printed function answers true at every input. No condition. -/
import Derived.Test.YtcmmmlenaahaeaaGreatDoorPShwx13
import Derived.Test.YtcmmmlenaahaeaaGreatDoorShwLib
import Derived.Test.YtcmmmlenaahaeaaGreatDoorShwRef
namespace Go.Proofs.YtcmmmlenaahaeaaGreatDoor.PShw
open Go.RowKit Go.Proofs.YtcmmmlenaahaeaaGreatDoorW.PrintWords Go.Proofs.YtcmmmlenaahaeaaGreatDoorW.PrintLast Go.Proofs.YtcmmmlenaahaeaaGreatDoorW.PrintMore
set_option linter.unusedVariables false
set_option linter.unusedSimpArgs false
theorem ShowFields_p (b:Int)(s:Bool)(kind:Int)(hb:(Lit.int .u64 b).wf=true)(_:(Lit.int .i64 kind).wf=true):∃ k,complinelaw20_ShowFields.f k b s kind=some true:=by
  obtain ⟨K,hK⟩:∃ K:Nat,K=0:=⟨0,rfl⟩
  clear hK
  refine ⟨K+400,?_⟩
  replace hb:=Shw.wf hb
  unfold complinelaw20_ShowFields.f
  rw [show complinelaw20_works.f=some true from rfl]
  simp only [Option.bind_some,if_true]
  rw [Shw.rfield b s kind hb K]
  rcases Shw.field_cases b s kind hb with ⟨e,he,c,f⟩ | ⟨c,f,p,_,_⟩
  · rw [show show_Field.f b s kind=some (⟨#[]⟩,e) from f]
    simp
  · rw [show show_Field.f b s kind=some (Shw.ftext b s,0) from f]
    simp
end Go.Proofs.YtcmmmlenaahaeaaGreatDoor.PShw
namespace Go.Proofs.YtcmmmlenaahaeaaGreatDoor.Pure
open Go.RowKit Go.Proofs.YtcmmmlenaahaeaaGreatDoorW.PrintWords Go.Proofs.YtcmmmlenaahaeaaGreatDoorW.PrintLast Go.Proofs.YtcmmmlenaahaeaaGreatDoorW.PrintMore Go.Proofs.YtcmmmlenaahaeaaGreatDoor.PShw
theorem ShowFields:∀ (a0_0:Int)(a0_1:Bool)(a1:Int),(Lit.int .u64 a0_0).wf=true→(Lit.int .i64 a1).wf=true→∃ k,complinelaw20_ShowFields.f k a0_0 a0_1 a1=some true:=fun a0_0 a0_1 a1 h0_ h1_=>ShowFields_p a0_0 a0_1 a1 h0_ h1_
end Go.Proofs.YtcmmmlenaahaeaaGreatDoor.Pure
