/- The law ShowApart, over numbers: its printed function answers true at every input. No condition. -/
import Derived.Test.YtcmmmlenaahaeaaGreatDoorPShwx20
import Derived.Test.YtcmmmlenaahaeaaGreatDoorShwLib
namespace Go.Proofs.YtcmmmlenaahaeaaGreatDoor.PShw
open Go.RowKit Go.Proofs.YtcmmmlenaahaeaaGreatDoorW.PrintWords Go.Proofs.YtcmmmlenaahaeaaGreatDoorW.PrintLast Go.Proofs.YtcmmmlenaahaeaaGreatDoorW.PrintMore
set_option linter.unusedVariables false
set_option linter.unusedSimpArgs false
theorem ShowApart_p (b0:Int)(s0:Bool)(b1:Int)(s1:Bool)(b2:Int)(s2:Bool)(b3:Int)(s3:Bool)(b4:Int)(s4:Bool)(d0:Int)(t0:Bool)(d1:Int)(t1:Bool)(d2:Int)(t2:Bool)(d3:Int)(t3:Bool)(d4:Int)(t4:Bool)(u0:(Lit.int .u64 b0).wf=true)(u1:(Lit.int .u64 b1).wf=true)(u2:(Lit.int .u64 b2).wf=true)(u3:(Lit.int .u64 b3).wf=true)(u4:(Lit.int .u64 b4).wf=true)(v0:(Lit.int .u64 d0).wf=true)(v1:(Lit.int .u64 d1).wf=true)(v2:(Lit.int .u64 d2).wf=true)(v3:(Lit.int .u64 d3).wf=true)(v4:(Lit.int .u64 d4).wf=true):complinelaw20_ShowApart.f b0 s0 b1 s1 b2 s2 b3 s3 b4 s4 d0 t0 d1 t1 d2 t2 d3 t3 d4 t4=some true:=by
  replace u0:=Shw.wf u0
  replace u1:=Shw.wf u1
  replace u2:=Shw.wf u2
  replace u3:=Shw.wf u3
  replace u4:=Shw.wf u4
  replace v0:=Shw.wf v0
  replace v1:=Shw.wf v1
  replace v2:=Shw.wf v2
  replace v3:=Shw.wf v3
  replace v4:=Shw.wf v4
  unfold complinelaw20_ShowApart.f
  rw [show complinelaw20_works.f=some true from rfl]
  simp only [Option.bind_some,if_true]
  rw [Shw.spec_f u0 u1 u2 u3 u4,Shw.spec_f v0 v1 v2 v3 v4]
  rcases Shw.spec_cases (s0:=s0) (s1:=s1) (s2:=s2) (s3:=s3) (s4:=s4) u0 u1 u2 u3 u4 with ⟨n,e,h,_,he,h1,h2⟩ | ⟨h,_,p,_⟩
  · rw [h]
    simp only [Option.bind_some]
    rcases Shw.spec_cases (s0:=t0) (s1:=t1) (s2:=t2) (s3:=t3) (s4:=t4) v0 v1 v2 v3 v4 with ⟨n',e',h',_,he',_,_⟩ | ⟨h',_,p',_⟩
    · rw [h']
      simp only [Option.bind_some]
      rw [if_neg he]
    · rw [h']
      simp only [Option.bind_some]
      rw [if_neg he]
  · rw [h]
    simp only [Option.bind_some,if_true]
    rcases Shw.spec_cases (s0:=t0) (s1:=t1) (s2:=t2) (s3:=t3) (s4:=t4) v0 v1 v2 v3 v4 with ⟨n',e',h',_,he',_,_⟩ | ⟨h',_,p',_⟩
    · rw [h']
      simp only [Option.bind_some]
      rw [if_neg he']
    · rw [h']
      simp only [Option.bind_some,if_true]
      have key:=Shw.stext_inj p p'
      have kl:(Shw.stext b0 s0 b1 s1 b2 s2 b3 s3 b4 s4).toList=(Shw.stext d0 t0 d1 t1 d2 t2 d3 t3 d4 t4).toList↔Shw.stext b0 s0 b1 s1 b2 s2 b3 s3 b4 s4=Shw.stext d0 t0 d1 t1 d2 t2 d3 t3 d4 t4:=
        ⟨fun e=>B_ext (by rw [← toList_of,← toList_of,e]),fun e=>by rw [e]⟩
      have hs:spec_Same.f b0 s0 b1 s1 b2 s2 b3 s3 b4 s4 d0 t0 d1 t1 d2 t2 d3 t3 d4 t4=some (decide (b0=d0∧s0=t0∧b1=d1∧s1=t1∧b2=d2∧s2=t2∧b3=d3∧s3=t3∧b4=d4∧s4=t4)):=by
        unfold spec_Same.f
        congr 1
        rw [Bool.eq_iff_iff]
        simp [and_assoc]
      rw [hs]
      simp only [Option.bind_some]
      congr 1
      rw [beq_iff_eq,Bool.eq_iff_iff,beq_iff_eq,decide_eq_true_eq,kl,key]
end Go.Proofs.YtcmmmlenaahaeaaGreatDoor.PShw
namespace Go.Proofs.YtcmmmlenaahaeaaGreatDoor.Pure
open Go.RowKit Go.Proofs.YtcmmmlenaahaeaaGreatDoorW.PrintWords Go.Proofs.YtcmmmlenaahaeaaGreatDoorW.PrintLast Go.Proofs.YtcmmmlenaahaeaaGreatDoorW.PrintMore Go.Proofs.YtcmmmlenaahaeaaGreatDoor.PShw
theorem ShowApart:∀ (a0_0:Int)(a0_1:Bool)(a0_2:Int)(a0_3:Bool)(a0_4:Int)(a0_5:Bool)(a0_6:Int)(a0_7:Bool)(a0_8:Int)(a0_9:Bool)(a1_0:Int)(a1_1:Bool)(a1_2:Int)(a1_3:Bool)(a1_4:Int)(a1_5:Bool)(a1_6:Int)(a1_7:Bool)(a1_8:Int)(a1_9:Bool),(Lit.int .u64 a0_0).wf=true→(Lit.int .u64 a0_2).wf=true→(Lit.int .u64 a0_4).wf=true→(Lit.int .u64 a0_6).wf=true→(Lit.int .u64 a0_8).wf=true→(Lit.int .u64 a1_0).wf=true→(Lit.int .u64 a1_2).wf=true→(Lit.int .u64 a1_4).wf=true→(Lit.int .u64 a1_6).wf=true→(Lit.int .u64 a1_8).wf=true→complinelaw20_ShowApart.f a0_0 a0_1 a0_2 a0_3 a0_4 a0_5 a0_6 a0_7 a0_8 a0_9 a1_0 a1_1 a1_2 a1_3 a1_4 a1_5 a1_6 a1_7 a1_8 a1_9=some true:=fun a0_0 a0_1 a0_2 a0_3 a0_4 a0_5 a0_6 a0_7 a0_8 a0_9 a1_0 a1_1 a1_2 a1_3 a1_4 a1_5 a1_6 a1_7 a1_8 a1_9 h0_ h1_ h2_ h3_ h4_ h5_ h6_ h7_ h8_ h9_=>ShowApart_p a0_0 a0_1 a0_2 a0_3 a0_4 a0_5 a0_6 a0_7 a0_8 a0_9 a1_0 a1_1 a1_2 a1_3 a1_4 a1_5 a1_6 a1_7 a1_8 a1_9 h0_ h1_ h2_ h3_ h4_ h5_ h6_ h7_ h8_ h9_
end Go.Proofs.YtcmmmlenaahaeaaGreatDoor.Pure
