/- The law RearmLater, over numbers: its printed function answers true at every input. No condition. -/
import Derived.Test.YtepflnfnkfkldaaDoorPReax19
import Derived.Test.YtepflnfnkfkldaaDoorReaLib
namespace Go.Proofs.YtepflnfnkfkldaaDoor.PRea
open Go.RowKit Go.Proofs.YtepflnfnkfkldaaDoorW.PrintWords Go.Proofs.YtepflnfnkfkldaaDoorW.PrintLast Go.Proofs.YtepflnfnkfkldaaDoorW.PrintMore
set_option linter.unusedVariables false
set_option linter.unusedSimpArgs false
theorem RearmLater_p (k0 p l b0 : Int) (s0 : Bool) (b1 : Int) (s1 : Bool) (b2 : Int) (s2 : Bool) (b3 : Int) (s3 : Bool) (b4 : Int) (s4 : Bool) (a n : Int) (_ : (Lit.int .i64 k0).wf = true) (hp : (Lit.int .u64 p).wf = true) (hl : (Lit.int .i64 l).wf = true) (h0 : (Lit.int .u64 b0).wf = true) (h1 : (Lit.int .u64 b1).wf = true) (h2 : (Lit.int .u64 b2).wf = true) (h3 : (Lit.int .u64 b3).wf = true) (h4 : (Lit.int .u64 b4).wf = true) (ha : (Lit.int .u64 a).wf = true) (hn : (Lit.int .u64 n).wf = true) :
    ∃ k,complinelaw23_RearmLater.f k k0 p l b0 s0 b1 s1 b2 s2 b3 s3 b4 s4 a n=some true:=by
  obtain ⟨hp0,hp1⟩ :=wf_in _ hp
  obtain ⟨ha0,ha1⟩ :=wf_in _ ha
  obtain ⟨hn0,hn1⟩ :=wf_in _ hn
  obtain ⟨hl0,hl1⟩ :=i64_of _ hl
  obtain ⟨P,rfl⟩:∃ x:Nat,p=x:=⟨p.toNat,by omega⟩
  obtain ⟨A,rfl⟩:∃ x:Nat,a=x:=⟨a.toNat,by omega⟩
  obtain ⟨N,rfl⟩:∃ x:Nat,n=x:=⟨n.toNat,by omega⟩
  refine ⟨5+2,?_⟩
  unfold complinelaw23_RearmLater.f
  rw [show complinelaw23_works.f=some true from rfl,Option.bind_some,if_pos rfl]
  obtain ⟨m,e,hs,ho⟩ :=Rea.spec_chk b0 s0 b1 s1 b2 s2 b3 s3 b4 s4
  by_cases hc:Rea.chk k0 P l (Rea.Z b0 s0 b1 s1 b2 s2 b3 s3 b4 s4) e=0
  case neg=>
    have h:rearm_Again.f k0 P l b0 s0 b1 s1 b2 s2 b3 s3 b4 s4 A N=some (0,0,0,0,0,false,0,false,0,false,0,false,0,false,0,Rea.chk k0 P l (Rea.Z b0 s0 b1 s1 b2 s2 b3 s3 b4 s4) e):=by
      unfold rearm_Again.f
      rw [show (100:Nat)=98+2 from rfl,Rea.chk_is hs,Option.bind_some,if_pos hc]
    rw [h,Option.bind_some]
    dsimp only
    rw [if_neg hc]
    rfl
  rcases Rea.chk_zero hc with ⟨rfl,q1,q2,q3⟩ | ⟨rfl,q1,q2,q3⟩ | ⟨rfl,q1,q2,q3⟩
  · have h : rearm_Again.f 0 P l b0 s0 b1 s1 b2 s2 b3 s3 b4 s4 A N = some (0, 0, 0, 0, 0, false, 0, false, 0, false, 0, false, 0, false, 0, 5) := by
      unfold rearm_Again.f
      rw [show (100:Nat)=98+2 from rfl,Rea.chk_is hs,Option.bind_some,hc,if_neg (by decide),if_pos rfl]
      rfl
    rw [h,Option.bind_some]
    dsimp only
    rw [if_neg (by decide)]
    rfl
  · obtain ⟨rfl,rfl,rfl,rfl,rfl,rfl,rfl,rfl,rfl,rfl⟩ :=q3
    obtain ⟨l,rfl⟩:∃ x:Nat,l=x:=⟨l.toNat,by omega⟩
    by_cases hla:l=1∨A=18446744073709551615
    · rw [Rea.again_last P l A N (by omega) (by omega) hla,Option.bind_some]
      dsimp only
      rw [if_neg (by decide)]
      rfl
    · rw [Rea.again_every P l A N (by omega) (by omega) (by omega) (by omega) (by omega) (fun q=>hla (.inl q)) (fun q=>hla (.inr q)),Option.bind_some]
      have hq:=Nat.div_mul_le_self (N - A) P
      have hm:N - A < (N - A) / P*P+P:=Nat.lt_div_mul_add (by omega)
      have hd:((N - A) / P*P+P) / P=(N - A) / P+1:=by rw [Nat.add_div_right _ (by omega),Nat.mul_div_cancel _ (by omega)]
      have hr:((N - A) / P*P+P) % P=0:=by rw [Nat.add_mod_right,Nat.mul_mod_left]
      have hy:(N - A) / P≤N - A:=Nat.div_le_self _ _
      generalize (N - A) / P*P=X at hq hm hd hr ⊢
      generalize (N - A) / P=Y at hd hy ⊢
      have hc2:rearm_Check.f (5+2) 1 (P:Int) (if l=0 then 0 else (l:Int) - 1) 0 false 0 false 0 false 0 false 0 false=some 0:=by
        rw [Rea.chk_is hs]
        unfold Rea.chk
        rw [if_neg (by decide),if_pos rfl,if_neg (by omega),if_neg (fun q=>q.elim (by split <;> omega) (fun q=>q ⟨rfl,rfl,rfl,rfl,rfl,rfl,rfl,rfl,rfl,rfl⟩))]
      dsimp only
      rw [if_pos rfl,hc2,Option.bind_some,if_pos rfl,if_pos rfl,show (5+2:Nat)=6+1 from rfl,complinelaw23_RearmLater.j0,if_neg (by simp)]
      by_cases hs:18446744073709551616≤((A+X+P:Nat):Int)
      · rw [if_pos hs,if_pos rfl,if_pos rfl]
        rfl
      · rw [if_neg hs]
        by_cases hs2:((A+X+P:Nat):Int)=18446744073709551615
        · rw [if_pos hs2,if_pos rfl]
          rfl
        · have e1:IntKind.u64.wrap (((A+X+P:Nat):Int) - (A:Int))=((X+P:Nat):Int):=by rw [show ((A+X+P:Nat):Int) - (A:Int)=((X+P:Nat):Int) by omega]; exact Rea.u64n (by omega) (by omega)
          have e2:Int.tmod ((X+P:Nat):Int) (P:Int)=0:=by rw [Int.tmod_eq_emod_of_nonneg (by omega)]; exact_mod_cast hr
          have e3:Int.tdiv ((X+P:Nat):Int) (P:Int)=((Y+1:Nat):Int):=by rw [Int.tdiv_eq_ediv_of_nonneg (by omega),← Int.natCast_ediv,hd]
          rw [if_neg hs2,if_pos rfl,if_pos (by omega),if_pos rfl,if_pos (by omega),if_neg (by omega),e1,e2,if_pos rfl,e3,Rea.u64n (by omega) (by omega),show ((Y:Int)+1)=((Y+1:Nat):Int) by omega,Rea.u64n (by omega) (by omega)]
          simp
  · subst q3
    have hA:(0:Int)=0:=rfl
    have h:rearm_Again.f 2 P l b0 s0 b1 s1 b2 s2 b3 s3 b4 s4 A N=some (if (Rea.mat false (Nx.at2 b0 b1 b2 s2 b3 b4 s4) N).2=0 then ((Rea.mat false (Nx.at2 b0 b1 b2 s2 b3 b4 s4) N).1,2,(P:Int),l,b0,s0,b1,s1,b2,s2,b3,s3,b4,s4,0,0) else (0,0,0,0,0,false,0,false,0,false,0,false,0,false,0,(Rea.mat false (Nx.at2 b0 b1 b2 s2 b3 b4 s4) N).2)):=by
      unfold rearm_Again.f
      rw [show (100:Nat)=98+2 from rfl,Rea.chk_is hs,Option.bind_some,hc,if_neg (by decide),if_neg (by decide),if_neg (by decide),if_pos rfl]
      unfold rearm_plan_meets.f
      rw [Rea.mat_is (wf_in _ h0) (wf_in _ h1) (wf_in _ h2) (wf_in _ h3) (wf_in _ h4) ho N (by omega),Option.bind_some]
      by_cases c:(Rea.mat false (Nx.at2 b0 b1 b2 s2 b3 b4 s4) N).2=0
      · rw [if_pos (show (Rea.mat ((0:Int) != 0) (Nx.at2 b0 b1 b2 s2 b3 b4 s4) N).2=0 from c),if_pos c]; rfl
      · rw [if_neg (show ¬ (Rea.mat ((0:Int) != 0) (Nx.at2 b0 b1 b2 s2 b3 b4 s4) N).2=0 from c),if_neg c]; rfl
    rw [h,Option.bind_some]
    by_cases c:(Rea.mat false (Nx.at2 b0 b1 b2 s2 b3 b4 s4) N).2=0
    · rw [if_pos c]
      obtain ⟨r,r1,r2,r3,r4,-,-⟩ :=Rea.mat_ok c
      have hc2:rearm_Check.f (5+2) 2 (P:Int) l b0 s0 b1 s1 b2 s2 b3 s3 b4 s4=some 0:=by rw [Rea.chk_is hs,hc]
      rw [r2]
      dsimp only
      rw [if_pos rfl,hc2,Option.bind_some,if_pos rfl,if_pos rfl,show (5+2:Nat)=6+1 from rfl,complinelaw23_RearmLater.j0,if_neg (by simp),if_neg (by omega),if_pos rfl,if_pos (by omega),if_neg (by decide)]
    · rw [if_neg c]
      dsimp only
      rw [if_neg c]
      rfl
end Go.Proofs.YtepflnfnkfkldaaDoor.PRea
namespace Go.Proofs.YtepflnfnkfkldaaDoor.Pure
open Go.RowKit Go.Proofs.YtepflnfnkfkldaaDoorW.PrintWords Go.Proofs.YtepflnfnkfkldaaDoorW.PrintLast Go.Proofs.YtepflnfnkfkldaaDoorW.PrintMore Go.Proofs.YtepflnfnkfkldaaDoor.PRea
theorem RearmLater:∀ (a0_0:Int)(a0_1:Int)(a0_2:Int)(a0_3:Int)(a0_4:Bool)(a0_5:Int)(a0_6:Bool)(a0_7:Int)(a0_8:Bool)(a0_9:Int)(a0_10:Bool)(a0_11:Int)(a0_12:Bool)(a1:Int)(a2:Int),(Lit.int .i64 a0_0).wf=true→(Lit.int .u64 a0_1).wf=true→(Lit.int .i64 a0_2).wf=true→(Lit.int .u64 a0_3).wf=true→(Lit.int .u64 a0_5).wf=true→(Lit.int .u64 a0_7).wf=true→(Lit.int .u64 a0_9).wf=true→(Lit.int .u64 a0_11).wf=true→(Lit.int .u64 a1).wf=true→(Lit.int .u64 a2).wf=true→∃ k,complinelaw23_RearmLater.f k a0_0 a0_1 a0_2 a0_3 a0_4 a0_5 a0_6 a0_7 a0_8 a0_9 a0_10 a0_11 a0_12 a1 a2=some true:=fun a0_0 a0_1 a0_2 a0_3 a0_4 a0_5 a0_6 a0_7 a0_8 a0_9 a0_10 a0_11 a0_12 a1 a2 h0_ h1_ h2_ h3_ h4_ h5_ h6_ h7_ h8_ h9_=>RearmLater_p a0_0 a0_1 a0_2 a0_3 a0_4 a0_5 a0_6 a0_7 a0_8 a0_9 a0_10 a0_11 a0_12 a1 a2 h0_ h1_ h2_ h3_ h4_ h5_ h6_ h7_ h8_ h9_
end Go.Proofs.YtepflnfnkfkldaaDoor.Pure
