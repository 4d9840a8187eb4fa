/- The law RearmAgain, over numbers: its printed function answers true at every input. No condition. -/
import Derived.Test.YtepflnfnkfkldaaDoorPReax19
import Derived.Test.YtepflnfnkfkldaaDoorReaLib
import Derived.Test.YtepflnfnkfkldaaDoorReaRef
namespace Go.Proofs.YtepflnfnkfkldaaDoor.PRea
open Go.RowKit Go.Proofs.YtepflnfnkfkldaaDoorW.PrintWords Go.Proofs.YtepflnfnkfkldaaDoorW.PrintLast Go.Proofs.YtepflnfnkfkldaaDoorW.PrintMore
set_option linter.unusedVariables false
set_option linter.unusedSimpArgs false
theorem Rea.again_same (x1 x2 x3 x4 x5 : Int) (x6 : Bool) (x7 : Int) (x8 : Bool) (x9 : Int) (x10 : Bool) (x11 : Int) (x12 : Bool) (x13 : Int) (x14 : Bool) (x15 x16 : Int) :
    ((x2 == x2 && (x3 == x3 && (x4 == x4 && (((x5 == x5 && (x6 == x6)) && ((x7 == x7 && (x8 == x8)) && ((x9 == x9 && (x10 == x10)) && ((x11 == x11 && (x12 == x12)) && ((x13 == x13 && (x14 == x14)))))))))))=true):=by simp
theorem RearmAgain_p (k0 p l b0 : Int) (s0 : Bool) (b1 : Int) (s1 : Bool) (b2 : Int) (s2 : Bool) (b3 : Int) (s3 : Bool) (b4 : Int) (s4 : Bool) (a d : Int) (_ : (Lit.int .i64 k0).wf = true) (hp : (Lit.int .u64 p).wf = true) (hl : (Lit.int .i64 l).wf = true) (h0 : (Lit.int .u64 b0).wf = true) (h1 : (Lit.int .u64 b1).wf = true) (h2 : (Lit.int .u64 b2).wf = true) (h3 : (Lit.int .u64 b3).wf = true) (h4 : (Lit.int .u64 b4).wf = true) (ha : (Lit.int .u64 a).wf = true) (hd : (Lit.int .u64 d).wf = true) :
    ∃ k,complinelaw23_RearmAgain.f k k0 p l b0 s0 b1 s1 b2 s2 b3 s3 b4 s4 a d=some true:=by
  obtain ⟨ha0,ha1⟩ :=wf_in _ ha
  obtain ⟨hd0,hd1⟩ :=wf_in _ hd
  obtain ⟨hp0,hp1⟩ :=wf_in _ hp
  obtain ⟨hl0,hl1⟩ :=i64_of _ hl
  obtain ⟨A,rfl⟩:∃ x:Nat,a=x:=⟨a.toNat,by omega⟩
  obtain ⟨D,rfl⟩:∃ x:Nat,d=x:=⟨d.toNat,by omega⟩
  obtain ⟨P,rfl⟩:∃ x:Nat,p=x:=⟨p.toNat,by omega⟩
  obtain ⟨m,e,hs,ho⟩ :=Rea.spec_chk b0 s0 b1 s1 b2 s2 b3 s3 b4 s4
  refine ⟨504+1,?_⟩
  unfold complinelaw23_RearmAgain.f
  rw [show complinelaw23_works.f=some true from rfl,Option.bind_some,if_pos rfl]
  suffices h:∃ r,rearm_Again.f k0 P l b0 s0 b1 s1 b2 s2 b3 s3 b4 s4 A D=some r∧complineref23_Again.f (504+1) k0 P l b0 s0 b1 s1 b2 s2 b3 s3 b4 s4 A D=some r by
    obtain ⟨⟨x1,x2,x3,x4,x5,x6,x7,x8,x9,x10,x11,x12,x13,x14,x15,x16⟩,q1,q2⟩ :=h
    rw [q1,q2,Option.bind_some,Option.bind_some]
    dsimp only
    rw [if_pos rfl,if_pos (Rea.again_same x1 x2 x3 x4 x5 x6 x7 x8 x9 x10 x11 x12 x13 x14 x15 x16),if_pos rfl]
    simp
  unfold rearm_Again.f complineref23_Again.f
  rw [show (100:Nat)=98+2 from rfl,Rea.chk_is hs,Rea.rchk (wf_in _ h0) (wf_in _ h1) (wf_in _ h2) (wf_in _ h3) (wf_in _ h4) hp0 hs,Option.bind_some,Option.bind_some]
  by_cases hc:Rea.chk k0 P l (Rea.Z b0 s0 b1 s1 b2 s2 b3 s3 b4 s4) e=0
  case neg=>rw [if_pos hc,if_neg hc]; exact ⟨_,rfl,rfl⟩
  rw [hc,if_neg (by decide),if_pos rfl]
  have jt:complineref23_Again.j0 (504+1) A D true k0 P l b0 s0 b1 s1 b2 s2 b3 s3 b4 s4=some (0,0,0,0,0,false,0,false,0,false,0,false,0,false,0,5):=by
    rw [show 504+1=504+0+1 from rfl,complineref23_Again.j0,if_pos rfl]
  rcases Rea.chk_zero hc with ⟨q0,q1,q2,q3⟩ | ⟨q0,q1,q2,q3⟩ | ⟨q0,q1,q2,q3⟩
  · rw [if_pos q0,if_pos q0,jt]
    exact ⟨_,rfl,rfl⟩
  · rw [if_neg (by omega),if_pos q0,if_neg (by omega),if_pos q0,jt]
    unfold rearm_plan_goes.f
    by_cases c1:l=1
    · rw [if_pos c1,if_pos c1]; exact ⟨_,rfl,rfl⟩
    rw [if_neg c1,if_neg c1]
    by_cases c2:(A:Int)=18446744073709551615
    · rw [if_pos c2,show ((A:Int) == 18446744073709551615)=true by simp [c2],jt]; exact ⟨_,rfl,rfl⟩
    rw [if_neg c2,show ((A:Int) == 18446744073709551615)=false by simp [c2],show 504+1=504+0+1 from rfl,complineref23_Again.j0,if_neg Bool.false_ne_true,if_neg (by omega),Rea.raft A P D (by omega) (by omega) (by omega) (by omega),Rea.aft_is A P D (by omega) (by omega) (by omega) (by omega),Option.bind_some,Option.bind_some,Rea.mx_is l q2 (by omega)]
    by_cases c3:l=0
    · rw [if_pos c3,if_neg (show ¬ l > 0 by omega),c3]; exact ⟨_,rfl,rfl⟩
    · rw [if_neg c3,if_pos (show l > 0 by omega),Civ.w64 (by omega) (by omega)]; exact ⟨_,rfl,rfl⟩
  · rw [if_neg (by omega),if_neg (by omega),if_pos q0,if_neg (by omega),if_neg (by omega),show 504+1=504+0+1 from rfl,complineref23_Again.j0,if_neg Bool.false_ne_true,if_pos q0]
    obtain ⟨⟨r1,r2⟩,f1,f2⟩ :=Rea.first_is (k0:=k0) (l:=l) (wf_in _ h0) (wf_in _ h1) (wf_in _ h2) (wf_in _ h3) (wf_in _ h4) hp0 hs ho 0 D 0 (by omega) (by decide)
    have f3:rearm_plan_matched.f k0 P l b0 s0 b1 s1 b2 s2 b3 s3 b4 s4 D 0=some (r1,r2):=by
      unfold rearm_First.f at f1
      rw [show (100:Nat)=98+2 from rfl,Rea.chk_is hs,Option.bind_some,hc,if_neg (by decide),if_neg (by omega),if_pos q0] at f1
      exact f1
    rw [show ((0:Nat):Int)=0 from rfl] at f2
    unfold rearm_plan_meets.f
    rw [f3,f2,Option.bind_some]
    by_cases c:r2=0
    · exact ⟨_,if_pos c,if_pos c⟩
    · exact ⟨_,if_neg c,if_neg c⟩
end Go.Proofs.YtepflnfnkfkldaaDoor.PRea
namespace Go.Proofs.YtepflnfnkfkldaaDoor.Pure
open Go.RowKit Go.Proofs.YtepflnfnkfkldaaDoorW.PrintWords Go.Proofs.YtepflnfnkfkldaaDoorW.PrintLast Go.Proofs.YtepflnfnkfkldaaDoorW.PrintMore Go.Proofs.YtepflnfnkfkldaaDoor.PRea
theorem RearmAgain:∀ (a0_0:Int)(a0_1:Int)(a0_2:Int)(a0_3:Int)(a0_4:Bool)(a0_5:Int)(a0_6:Bool)(a0_7:Int)(a0_8:Bool)(a0_9:Int)(a0_10:Bool)(a0_11:Int)(a0_12:Bool)(a1:Int)(a2:Int),(Lit.int .i64 a0_0).wf=true→(Lit.int .u64 a0_1).wf=true→(Lit.int .i64 a0_2).wf=true→(Lit.int .u64 a0_3).wf=true→(Lit.int .u64 a0_5).wf=true→(Lit.int .u64 a0_7).wf=true→(Lit.int .u64 a0_9).wf=true→(Lit.int .u64 a0_11).wf=true→(Lit.int .u64 a1).wf=true→(Lit.int .u64 a2).wf=true→∃ k,complinelaw23_RearmAgain.f k a0_0 a0_1 a0_2 a0_3 a0_4 a0_5 a0_6 a0_7 a0_8 a0_9 a0_10 a0_11 a0_12 a1 a2=some true:=fun a0_0 a0_1 a0_2 a0_3 a0_4 a0_5 a0_6 a0_7 a0_8 a0_9 a0_10 a0_11 a0_12 a1 a2 h0_ h1_ h2_ h3_ h4_ h5_ h6_ h7_ h8_ h9_=>RearmAgain_p a0_0 a0_1 a0_2 a0_3 a0_4 a0_5 a0_6 a0_7 a0_8 a0_9 a0_10 a0_11 a0_12 a1 a2 h0_ h1_ h2_ h3_ h4_ h5_ h6_ h7_ h8_ h9_
end Go.Proofs.YtepflnfnkfkldaaDoor.Pure
