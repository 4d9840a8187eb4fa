/- The law RearmFirst, over numbers: its printed function answers true at every input. No condition. -/
import Derived.Test.YtepflnfnkfkldaaDoorPReax16
import Derived.Test.YtepflnfnkfkldaaDoorReaLib
import Derived.Test.YtepflnfnkfkldaaDoorReaRef
namespace Go.Proofs.YtepflnfnkfkldaaDoor.PRea
open Go.RowKit Go.Proofs.YtepflnfnkfkldaaDoorW.PrintWords Go.Proofs.YtepflnfnkfkldaaDoorW.PrintLast Go.Proofs.YtepflnfnkfkldaaDoorW.PrintMore
set_option linter.unusedVariables false
set_option linter.unusedSimpArgs false
theorem RearmFirst_p (k0 p l b0 : Int) (s0 : Bool) (b1 : Int) (s1 : Bool) (b2 : Int) (s2 : Bool) (b3 : Int) (s3 : Bool) (b4 : Int) (s4 : Bool) (a d : Int) (_ : (Lit.int .i64 k0).wf = true) (hp : (Lit.int .u64 p).wf = true) (_ : (Lit.int .i64 l).wf = true) (h0 : (Lit.int .u64 b0).wf = true) (h1 : (Lit.int .u64 b1).wf = true) (h2 : (Lit.int .u64 b2).wf = true) (h3 : (Lit.int .u64 b3).wf = true) (h4 : (Lit.int .u64 b4).wf = true) (ha : (Lit.int .u64 a).wf = true) (hd : (Lit.int .u64 d).wf = true) :
    ∃ k,complinelaw23_RearmFirst.f k k0 p l b0 s0 b1 s1 b2 s2 b3 s3 b4 s4 a d=some true:=by
  obtain ⟨ha0,ha1⟩ :=wf_in _ ha
  obtain ⟨hd0,hd1⟩ :=wf_in _ hd
  obtain ⟨A,rfl⟩:∃ x:Nat,a=x:=⟨a.toNat,by omega⟩
  obtain ⟨D,rfl⟩:∃ x:Nat,d=x:=⟨d.toNat,by omega⟩
  obtain ⟨m,e,hs,ho⟩ :=Rea.spec_chk b0 s0 b1 s1 b2 s2 b3 s3 b4 s4
  refine ⟨504+0,?_⟩
  unfold complinelaw23_RearmFirst.f
  obtain ⟨r,f1,f2⟩ :=Rea.first_is (k0:=k0) (l:=l) (wf_in _ h0) (wf_in _ h1) (wf_in _ h2) (wf_in _ h3) (wf_in _ h4) (wf_in _ hp).1 hs ho 0 A D (by omega) (by omega)
  rw [show complinelaw23_works.f=some true from rfl,Option.bind_some,if_pos rfl,f1,Option.bind_some,f2,Option.bind_some,show complineref23_Minute.f (A:Int)=rearm_Minute.f (A:Int) from rfl,Rea.minute_is A (by omega),Option.bind_some,Option.bind_some,
    Rea.rchk (wf_in _ h0) (wf_in _ h1) (wf_in _ h2) (wf_in _ h3) (wf_in _ h4) (wf_in _ hp).1 hs,show (504+0:Nat)=502+2 from rfl,Rea.chk_is hs,Option.bind_some,Option.bind_some,if_pos rfl,if_pos rfl,if_pos rfl,if_pos rfl]
  simp
end Go.Proofs.YtepflnfnkfkldaaDoor.PRea
namespace Go.Proofs.YtepflnfnkfkldaaDoor.Pure
open Go.RowKit Go.Proofs.YtepflnfnkfkldaaDoorW.PrintWords Go.Proofs.YtepflnfnkfkldaaDoorW.PrintLast Go.Proofs.YtepflnfnkfkldaaDoorW.PrintMore Go.Proofs.YtepflnfnkfkldaaDoor.PRea
theorem RearmFirst:∀ (a0_0:Int)(a0_1:Int)(a0_2:Int)(a0_3:Int)(a0_4:Bool)(a0_5:Int)(a0_6:Bool)(a0_7:Int)(a0_8:Bool)(a0_9:Int)(a0_10:Bool)(a0_11:Int)(a0_12:Bool)(a1:Int)(a2:Int),(Lit.int .i64 a0_0).wf=true→(Lit.int .u64 a0_1).wf=true→(Lit.int .i64 a0_2).wf=true→(Lit.int .u64 a0_3).wf=true→(Lit.int .u64 a0_5).wf=true→(Lit.int .u64 a0_7).wf=true→(Lit.int .u64 a0_9).wf=true→(Lit.int .u64 a0_11).wf=true→(Lit.int .u64 a1).wf=true→(Lit.int .u64 a2).wf=true→∃ k,complinelaw23_RearmFirst.f k a0_0 a0_1 a0_2 a0_3 a0_4 a0_5 a0_6 a0_7 a0_8 a0_9 a0_10 a0_11 a0_12 a1 a2=some true:=fun a0_0 a0_1 a0_2 a0_3 a0_4 a0_5 a0_6 a0_7 a0_8 a0_9 a0_10 a0_11 a0_12 a1 a2 h0_ h1_ h2_ h3_ h4_ h5_ h6_ h7_ h8_ h9_=>RearmFirst_p a0_0 a0_1 a0_2 a0_3 a0_4 a0_5 a0_6 a0_7 a0_8 a0_9 a0_10 a0_11 a0_12 a1 a2 h0_ h1_ h2_ h3_ h4_ h5_ h6_ h7_ h8_ h9_
end Go.Proofs.YtepflnfnkfkldaaDoor.Pure
