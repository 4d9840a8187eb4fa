/- The law ShowSpecs, over numbers: its printed function answers true at every input. No condition. -/
import Derived.Test.YtcmmmlenaahaeaaGreatDoorPShwx19
import Derived.Test.YtcmmmlenaahaeaaGreatDoorShwLib
import Derived.Test.YtcmmmlenaahaeaaGreatDoorShwRef
namespace Go.Proofs.YtcmmmlenaahaeaaGreatDoor.PShw
open Go.RowKit Go.Proofs.YtcmmmlenaahaeaaGreatDoorW.PrintWords Go.Proofs.YtcmmmlenaahaeaaGreatDoorW.PrintLast Go.Proofs.YtcmmmlenaahaeaaGreatDoorW.PrintMore
set_option linter.unusedVariables false
set_option linter.unusedSimpArgs false
theorem ShowSpecs_p (b0:Int)(s0:Bool)(b1:Int)(s1:Bool)(b2:Int)(s2:Bool)(b3:Int)(s3:Bool)(b4:Int)(s4:Bool)(s:ByteArray)(u0:(Lit.int .u64 b0).wf=true)(u1:(Lit.int .u64 b1).wf=true)(u2:(Lit.int .u64 b2).wf=true)(u3:(Lit.int .u64 b3).wf=true)(u4:(Lit.int .u64 b4).wf=true)(_:s.size≤140737488351232):∃ k,complinelaw20_ShowSpecs.f k b0 s0 b1 s1 b2 s2 b3 s3 b4 s4 s=some true:=by
  obtain ⟨K,hK⟩:∃ K:Nat,K=0:=⟨0,rfl⟩
  clear hK
  refine ⟨K+200000,?_⟩
  replace u0:=Shw.wf u0
  replace u1:=Shw.wf u1
  replace u2:=Shw.wf u2
  replace u3:=Shw.wf u3
  replace u4:=Shw.wf u4
  unfold complinelaw20_ShowSpecs.f
  rw [show complinelaw20_works.f=some true from rfl]
  simp only [Option.bind_some,if_true]
  by_cases h1:(s.size:Int) > 300
  · rw [if_pos h1]
  rw [if_neg h1,Shw.rtidy s K,show K+200000=K+199400+600 by omega,Shw.rspec b0 s0 b1 s1 b2 s2 b3 s3 b4 s4 u0 u1 u2 u3 u4 (K+199400),Shw.spec_f u0 u1 u2 u3 u4,Shw.tidy_f s]
  have key:∃ t n e,Shw.spec b0 s0 b1 s1 b2 s2 b3 s3 b4 s4=some (t,n,e):=by
    rcases Shw.spec_cases (s0:=s0) (s1:=s1) (s2:=s2) (s3:=s3) (s4:=s4) u0 u1 u2 u3 u4 with ⟨n,e,h,_⟩ | ⟨h,_⟩
    · exact ⟨_,_,_,h⟩
    · exact ⟨_,_,_,h⟩
  have key2:∃ t n e,Shw.tidy s=some (t,n,e):=by
    rcases Shw.tidy_cases s with ⟨n,e,t,_⟩ | ⟨t,h2,_⟩
    · exact ⟨_,_,_,t⟩
    · exact ⟨_,_,_,h2⟩
  obtain ⟨t,n,e,k1⟩ :=key
  obtain ⟨t',n',e',k2⟩ :=key2
  rw [k1,k2]
  simp
end Go.Proofs.YtcmmmlenaahaeaaGreatDoor.PShw
namespace Go.Proofs.YtcmmmlenaahaeaaGreatDoor.Pure
open Go.RowKit Go.Proofs.YtcmmmlenaahaeaaGreatDoorW.PrintWords Go.Proofs.YtcmmmlenaahaeaaGreatDoorW.PrintLast Go.Proofs.YtcmmmlenaahaeaaGreatDoorW.PrintMore Go.Proofs.YtcmmmlenaahaeaaGreatDoor.PShw
theorem ShowSpecs:∀ (a0_0:Int)(a0_1:Bool)(a0_2:Int)(a0_3:Bool)(a0_4:Int)(a0_5:Bool)(a0_6:Int)(a0_7:Bool)(a0_8:Int)(a0_9:Bool)(a1:ByteArray),(Lit.int .u64 a0_0).wf=true→(Lit.int .u64 a0_2).wf=true→(Lit.int .u64 a0_4).wf=true→(Lit.int .u64 a0_6).wf=true→(Lit.int .u64 a0_8).wf=true→a1.size≤140737488351232→∃ k,complinelaw20_ShowSpecs.f k a0_0 a0_1 a0_2 a0_3 a0_4 a0_5 a0_6 a0_7 a0_8 a0_9 a1=some true:=fun a0_0 a0_1 a0_2 a0_3 a0_4 a0_5 a0_6 a0_7 a0_8 a0_9 a1 h0_ h1_ h2_ h3_ h4_ h5_=>ShowSpecs_p a0_0 a0_1 a0_2 a0_3 a0_4 a0_5 a0_6 a0_7 a0_8 a0_9 a1 h0_ h1_ h2_ h3_ h4_ h5_
end Go.Proofs.YtcmmmlenaahaeaaGreatDoor.Pure
