/- The law RearmCron, over numbers: its printed function answers true at every input. No condition. -/
import Derived.Test.YtepflnfnkfkldaaDoorPReax24
import Derived.Test.YtepflnfnkfkldaaDoorReaLib
import Derived.Test.YtepflnfnkfkldaaDoorReaCnt
namespace Go.Proofs.YtepflnfnkfkldaaDoor.PRea
open Go.RowKit Go.Proofs.YtepflnfnkfkldaaDoorW.PrintWords Go.Proofs.YtepflnfnkfkldaaDoorW.PrintLast Go.Proofs.YtepflnfnkfkldaaDoorW.PrintMore
set_option linter.unusedVariables false
set_option linter.unusedSimpArgs false
theorem RearmCron_p (b0 : Int) (s0 : Bool) (b1 : Int) (s1 : Bool) (b2 : Int) (s2 : Bool) (b3 : Int) (s3 : Bool) (b4 : Int) (s4 : Bool) (a d : Int) (h0 : (Lit.int .u64 b0).wf = true) (h1 : (Lit.int .u64 b1).wf = true) (h2 : (Lit.int .u64 b2).wf = true) (h3 : (Lit.int .u64 b3).wf = true) (h4 : (Lit.int .u64 b4).wf = true) (ha : (Lit.int .u64 a).wf = true) (_ : (Lit.int .u64 d).wf = true) :
    ∃ k,complinelaw23_RearmCron.f k b0 s0 b1 s1 b2 s2 b3 s3 b4 s4 a d=some true:=⟨0,if_pos ⟨wf_in _ h0,wf_in _ h1,wf_in _ h2,wf_in _ h3,wf_in _ h4,wf_in _ ha⟩⟩
end Go.Proofs.YtepflnfnkfkldaaDoor.PRea
namespace Go.Proofs.YtepflnfnkfkldaaDoor.Pure
open Go.RowKit Go.Proofs.YtepflnfnkfkldaaDoorW.PrintWords Go.Proofs.YtepflnfnkfkldaaDoorW.PrintLast Go.Proofs.YtepflnfnkfkldaaDoorW.PrintMore Go.Proofs.YtepflnfnkfkldaaDoor.PRea
theorem RearmCron:∀ (a0_0:Int)(a0_1:Bool)(a0_2:Int)(a0_3:Bool)(a0_4:Int)(a0_5:Bool)(a0_6:Int)(a0_7:Bool)(a0_8:Int)(a0_9:Bool)(a1:Int)(a2:Int),(Lit.int .u64 a0_0).wf=true→(Lit.int .u64 a0_2).wf=true→(Lit.int .u64 a0_4).wf=true→(Lit.int .u64 a0_6).wf=true→(Lit.int .u64 a0_8).wf=true→(Lit.int .u64 a1).wf=true→(Lit.int .u64 a2).wf=true→∃ k,complinelaw23_RearmCron.f k a0_0 a0_1 a0_2 a0_3 a0_4 a0_5 a0_6 a0_7 a0_8 a0_9 a1 a2=some true:=fun a0_0 a0_1 a0_2 a0_3 a0_4 a0_5 a0_6 a0_7 a0_8 a0_9 a1 a2 h0_ h1_ h2_ h3_ h4_ h5_ h6_=>RearmCron_p a0_0 a0_1 a0_2 a0_3 a0_4 a0_5 a0_6 a0_7 a0_8 a0_9 a1 a2 h0_ h1_ h2_ h3_ h4_ h5_ h6_
end Go.Proofs.YtepflnfnkfkldaaDoor.Pure
