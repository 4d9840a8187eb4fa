/- The law RearmEndless, over numbers: its printed function answers true at every input. No condition. -/
import Derived.Test.YtepflnfnkfkldaaDoorPReax21
import Derived.Test.YtepflnfnkfkldaaDoorReaLib
namespace Go.Proofs.YtepflnfnkfkldaaDoor.PRea
open Go.RowKit Go.Proofs.YtepflnfnkfkldaaDoorW.PrintWords Go.Proofs.YtepflnfnkfkldaaDoorW.PrintLast Go.Proofs.YtepflnfnkfkldaaDoorW.PrintMore
set_option linter.unusedVariables false
set_option linter.unusedSimpArgs false
theorem Rea.end_l (p a1 n : Nat) (p0 : 0 < p) (hp : p ≤ 1000000) (ha : a1 ≤ 1000000) (hn : n ≤ 40) (k0 l b0 : Int) (s0 : Bool) (b1 : Int) (s1 : Bool) (b2 : Int) (s2 : Bool) (b3 : Int) (s3 : Bool) (b4 : Int) (s4 : Bool) : ∀ (d i k : Nat), i + d = n →
    complinelaw23_RearmEndless.l0 (k+d+1) (a1:Int) (n:Int) true ((a1+i*p:Nat):Int) (i:Int) k0 (p:Int) l b0 s0 b1 s1 b2 s2 b3 s3 b4 s4 1 (p:Int) 0 0 false 0 false 0 false 0 false 0 false=some true:=by
  intro d
  induction d with
  | zero=>
    intro i k hi
    obtain rfl:i=n:=hi
    have e1:IntKind.u64.wrap ((i:Nat):Int)=(i:Int):=Rea.u64n (by omega) (by omega)
    have hb:i*p≤40*1000000:=Nat.mul_le_mul hn hp
    have e2:IntKind.u64.wrap ((i:Int)*(p:Int))=((i*p:Nat):Int):=by
      rw [show (i:Int)*(p:Int)=((i*p:Nat):Int) by rw [Int.natCast_mul]]
      generalize i*p=x at hb ⊢
      exact Rea.u64n (by omega) (by omega)
    rw [complinelaw23_RearmEndless.l0,if_neg (by omega),if_pos rfl,e1,e2]
    generalize i*p=x at hb ⊢
    rw [Rea.u64n (by omega) (by omega),show ((a1+x:Nat):Int)=(a1:Int)+(x:Int) by omega]
    simp
  | succ d ih=>
    intro i k hi
    have hb:i*p≤40*1000000:=Nat.mul_le_mul (by omega) hp
    have hs:a1+(i+1)*p=a1+i*p+p:=by rw [Nat.add_mul,Nat.one_mul]; omega
    have ih':=ih (i+1) k (by omega)
    rw [hs,show k+d+1=k+d+1 from rfl] at ih'
    have ew:wrap64 ((i:Int)+1)=((i+1:Nat):Int):=by rw [Civ.w64 (by omega) (by omega)]; omega
    rw [show k+(d+1)+1=(k+d+1)+1 from rfl,complinelaw23_RearmEndless.l0,if_pos (by omega)]
    generalize i*p=x at hb ih' ⊢
    have ha:=Rea.again_every p 0 (a1+x) (a1+x) (by omega) p0 (by omega) (by omega) (by omega) (by omega) (by omega)
    rw [Nat.sub_self,Nat.zero_div,Nat.zero_mul,Nat.add_zero,if_neg (by omega),if_pos rfl,show ((0:Nat):Int)=0 from rfl] at ha
    rw [ha,Option.bind_some,if_pos rfl,if_neg (by simp),if_pos rfl,if_pos,ew]
    · exact ih'
    · rw [show ((a1+x:Nat):Int)+(p:Int)=((a1+x+p:Nat):Int) by omega,Rea.u64n (by omega) (by omega)]
theorem RearmEndless_p (k0 p l b0 : Int) (s0 : Bool) (b1 : Int) (s1 : Bool) (b2 : Int) (s2 : Bool) (b3 : Int) (s3 : Bool) (b4 : Int) (s4 : Bool) (a n : Int) (_ : (Lit.int .i64 k0).wf = true) (hp : (Lit.int .u64 p).wf = true) (_ : (Lit.int .i64 l).wf = true) (_ : (Lit.int .u64 b0).wf = true) (_ : (Lit.int .u64 b1).wf = true) (_ : (Lit.int .u64 b2).wf = true) (_ : (Lit.int .u64 b3).wf = true) (_ : (Lit.int .u64 b4).wf = true) (ha : (Lit.int .u64 a).wf = true) (_ : (Lit.int .i64 n).wf = true) :
    ∃ k,complinelaw23_RearmEndless.f k k0 p l b0 s0 b1 s1 b2 s2 b3 s3 b4 s4 a n=some true:=by
  obtain ⟨hp0,hp1⟩ :=wf_in _ hp
  obtain ⟨ha0,ha1⟩ :=wf_in _ ha
  refine ⟨60,?_⟩
  unfold complinelaw23_RearmEndless.f
  rw [show complinelaw23_works.f=some true from rfl,Option.bind_some,if_pos rfl]
  have jt:∀ x,complinelaw23_RearmEndless.j0 60 a n true true k0 p l b0 s0 b1 s1 b2 s2 b3 s3 b4 s4=x→x=some true:=by
    intro x h
    rw [← h,show (60:Nat)=59+1 from rfl,complinelaw23_RearmEndless.j0,if_pos rfl]
  by_cases c1:n < 0
  · rw [if_pos c1]; exact jt _ rfl
  rw [if_neg c1]
  by_cases c2:n > 40
  · rw [if_pos c2]; exact jt _ rfl
  rw [if_neg c2]
  by_cases c3:p=0
  · rw [if_pos c3]; exact jt _ rfl
  rw [if_neg c3]
  by_cases c4:p > 1000000
  · rw [if_pos c4]; exact jt _ rfl
  rw [if_neg c4]
  by_cases c5:a > 1000000
  · rw [decide_eq_true c5]; exact jt _ rfl
  rw [decide_eq_false c5,show (60:Nat)=59+1 from rfl,complinelaw23_RearmEndless.j0,if_neg Bool.false_ne_true]
  obtain ⟨P,rfl⟩:∃ x:Nat,p=x:=⟨p.toNat,by omega⟩
  obtain ⟨A,rfl⟩:∃ x:Nat,a=x:=⟨a.toNat,by omega⟩
  obtain ⟨M,rfl⟩:∃ x:Nat,n=x:=⟨n.toNat,by omega⟩
  have h:=Rea.end_l P A M (by omega) (by omega) (by omega) (by omega) k0 l b0 s0 b1 s1 b2 s2 b3 s3 b4 s4 M 0 (58 - M) (by omega)
  rw [Nat.zero_mul,Nat.add_zero,show 58 - M+M+1=59 by omega] at h
  exact h
end Go.Proofs.YtepflnfnkfkldaaDoor.PRea
namespace Go.Proofs.YtepflnfnkfkldaaDoor.Pure
open Go.RowKit Go.Proofs.YtepflnfnkfkldaaDoorW.PrintWords Go.Proofs.YtepflnfnkfkldaaDoorW.PrintLast Go.Proofs.YtepflnfnkfkldaaDoorW.PrintMore Go.Proofs.YtepflnfnkfkldaaDoor.PRea
theorem RearmEndless:∀ (a0_0:Int)(a0_1:Int)(a0_2:Int)(a0_3:Int)(a0_4:Bool)(a0_5:Int)(a0_6:Bool)(a0_7:Int)(a0_8:Bool)(a0_9:Int)(a0_10:Bool)(a0_11:Int)(a0_12:Bool)(a1:Int)(a2:Int),(Lit.int .i64 a0_0).wf=true→(Lit.int .u64 a0_1).wf=true→(Lit.int .i64 a0_2).wf=true→(Lit.int .u64 a0_3).wf=true→(Lit.int .u64 a0_5).wf=true→(Lit.int .u64 a0_7).wf=true→(Lit.int .u64 a0_9).wf=true→(Lit.int .u64 a0_11).wf=true→(Lit.int .u64 a1).wf=true→(Lit.int .i64 a2).wf=true→∃ k,complinelaw23_RearmEndless.f k a0_0 a0_1 a0_2 a0_3 a0_4 a0_5 a0_6 a0_7 a0_8 a0_9 a0_10 a0_11 a0_12 a1 a2=some true:=fun a0_0 a0_1 a0_2 a0_3 a0_4 a0_5 a0_6 a0_7 a0_8 a0_9 a0_10 a0_11 a0_12 a1 a2 h0_ h1_ h2_ h3_ h4_ h5_ h6_ h7_ h8_ h9_=>RearmEndless_p a0_0 a0_1 a0_2 a0_3 a0_4 a0_5 a0_6 a0_7 a0_8 a0_9 a0_10 a0_11 a0_12 a1 a2 h0_ h1_ h2_ h3_ h4_ h5_ h6_ h7_ h8_ h9_
end Go.Proofs.YtepflnfnkfkldaaDoor.Pure
