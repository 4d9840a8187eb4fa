/- The law RearmLeft, over numbers: its printed function answers true at every input. No condition. -/
import Derived.Test.YtepflnfnkfkldaaDoorPReax20
import Derived.Test.YtepflnfnkfkldaaDoorReaLib
namespace Go.Proofs.YtepflnfnkfkldaaDoor.PRea
open Go.RowKit Go.Proofs.YtepflnfnkfkldaaDoorW.PrintWords Go.Proofs.YtepflnfnkfkldaaDoorW.PrintLast Go.Proofs.YtepflnfnkfkldaaDoorW.PrintMore
set_option linter.unusedVariables false
set_option linter.unusedSimpArgs false
theorem Rea.w_succ (i:Nat)(h:i≤100):wrap64 ((i:Int)+1)=((i+1:Nat):Int):=by rw [Civ.w64 (by omega) (by omega)]; omega
theorem Rea.w_sub (n i d:Nat)(h:i+(d+1)=n)(hn:n≤100):wrap64 ((n:Int) - (i:Int))=((d+1:Nat):Int):=by rw [Civ.w64 (by omega) (by omega)]; omega
theorem Rea.left_bd (t s x p i:Nat)(h1:t≤i*3000000)(h2:i≤40)(h3:x≤s)(h4:s≤1000000)(h5:p≤1000000):¬ 18446744073709551616≤((t+x+p:Nat):Int):=by omega
theorem Rea.left_c (t s x p i n d : Nat) (h1 : t ≤ i * 3000000) (h2 : i ≤ 40) (h3 : x ≤ s) (h4 : s ≤ 1000000) (h5 : p ≤ 1000000) (hm : s < x + p) :
    IntKind.u64.wrap ((t:Int)+(s:Int))=((t+s:Nat):Int)∧IntKind.u64.wrap (((t+s:Nat):Int)+(p:Int))=((t+s+p:Nat):Int)∧¬ ((t+x+p:Nat):Int)≤((t+s:Nat):Int)∧¬ ((t+x+p:Nat):Int) > ((t+s+p:Nat):Int)∧t+x+p≤(i+1)*3000000:=by
  refine ⟨?_,?_,by omega,by omega,by omega⟩
  · rw [show (t:Int)+(s:Int)=((t+s:Nat):Int) by omega]; exact Rea.u64n (by omega) (by omega)
  · rw [show ((t+s:Nat):Int)+(p:Int)=((t+s+p:Nat):Int) by omega]; exact Rea.u64n (by omega) (by omega)
theorem Rea.left_e7 (d:Nat):((d+2:Nat):Int) - 1=((d+1:Nat):Int):=by omega
theorem Rea.left_l (p n : Nat) (p0 : 0 < p) (hp : p ≤ 1000000) (hn : n ≤ 40) (L : List Int) (hL : ∀ i, 0 ≤ rd L i) (hlen : n ≤ L.length) (k0 l b0 : Int) (s0 : Bool) (b1 : Int) (s1 : Bool) (b2 : Int) (s2 : Bool) (b3 : Int) (s3 : Bool) (b4 : Int) (s4 : Bool) : ∀ (d i k t : Nat), i + d = n → 1 ≤ i → t ≤ i * 3000000 →
    complinelaw23_RearmLeft.l0 (k+d+1) (n:Int) L true (t:Int) (i:Int) k0 (p:Int) l b0 s0 b1 s1 b2 s2 b3 s3 b4 s4 1 (p:Int) ((d+1:Nat):Int) 0 false 0 false 0 false 0 false 0 false=some true:=by
  intro d
  induction d with
  | zero=>
    intro i k t hi h1 ht
    obtain rfl:i=n:=hi
    rw [complinelaw23_RearmLeft.l0,if_neg (by omega),show (0+1:Nat)=1 from rfl,Rea.again_last p 1 t t (by omega) p0 (.inl rfl),Option.bind_some,if_pos rfl]
    rfl
  | succ d ih=>
    intro i k t hi h1 ht
    have hb:i*3000000≤40*3000000:=Nat.mul_le_mul (by omega) (Nat.le_refl _)
    rw [show k+(d+1)+1=(k+d+1)+1 from rfl,complinelaw23_RearmLeft.l0,if_pos (by omega),if_pos (by omega),if_pos (by omega)]
    by_cases c:rd L (i:Int) > 1000000
    · rw [if_pos c]
    rw [if_neg c]
    obtain ⟨s,hs⟩:∃ s:Nat,rd L (i:Int)=s:=⟨(rd L (i:Int)).toNat,by have:=hL (i:Int); omega⟩
    rw [hs] at c ⊢
    have hs1:s≤1000000:=by omega
    have hi40:i≤40:=by omega
    have hq:s / p*p≤s:=Nat.div_mul_le_self _ _
    have hm:s < s / p*p+p:=Nat.lt_div_mul_add p0
    have ht2:t≤120000000:=by omega
    have ha:=Rea.again_every p (d+2) t (t+s) (by omega) p0 (by omega) (by omega) (by omega) (by omega) (by omega)
    rw [Nat.add_sub_cancel_left] at ha
    have ew:=Lib.hid (Rea.w_succ i (by omega))
    have en:=Lib.hid (Rea.w_sub n i d hi (by omega))
    have hid1:i+1+d=n:=by omega
    have e6:=Rea.left_bd t s (s / p*p) p i ht hi40 hq hs1 hp
    obtain ⟨e1,e2,e3,e4,e5⟩ :=Rea.left_c t s (s / p*p) p i n d ht hi40 hq hs1 hp hm
    have ih':=ih (i+1) k (t+s / p*p+p) hid1 (Nat.le_add_left _ _) e5
    clear ih hq hm e5 hb ht ht2
    generalize s / p*p=x at ha ih' e3 e4 e6
    generalize s / p=y at ha
    rw [if_neg e6,if_neg (Nat.succ_ne_zero _)] at ha
    rw [e1,show (d+1+1:Nat)=d+2 from rfl,ha,Option.bind_some,e2,ew.out,en.out]
    dsimp only
    have e7:=Rea.left_e7 d
    rw [if_pos rfl,if_pos e7,if_neg e3,if_neg e4,e7]
    exact ih'
theorem RearmLeft_p (k0 p l b0 : Int) (s0 : Bool) (b1 : Int) (s1 : Bool) (b2 : Int) (s2 : Bool) (b3 : Int) (s3 : Bool) (b4 : Int) (s4 : Bool) (a n : Int) (L : List Int) (_ : (Lit.int .i64 k0).wf = true) (hp : (Lit.int .u64 p).wf = true) (_ : (Lit.int .i64 l).wf = true) (_ : (Lit.int .u64 b0).wf = true) (_ : (Lit.int .u64 b1).wf = true) (_ : (Lit.int .u64 b2).wf = true) (_ : (Lit.int .u64 b3).wf = true) (_ : (Lit.int .u64 b4).wf = true) (ha : (Lit.int .u64 a).wf = true) (_ : (Lit.int .i64 n).wf = true) (hL : ∀ x ∈ L, (Lit.int .u64 x).wf = true) :
    ∃ k,complinelaw23_RearmLeft.f k k0 p l b0 s0 b1 s1 b2 s2 b3 s3 b4 s4 a n L=some true:=by
  obtain ⟨hp0,hp1⟩ :=wf_in _ hp
  obtain ⟨ha0,ha1⟩ :=wf_in _ ha
  have hL':∀ i,0≤rd L i:=by
    intro i
    unfold rd
    rw [List.getD_eq_getElem?_getD]
    cases h:L[i.toNat]? with
    | none=>exact Int.le_refl _
    | some x=>exact (wf_in _ (hL x (List.mem_of_getElem? h))).1
  refine ⟨60,?_⟩
  unfold complinelaw23_RearmLeft.f
  rw [show complinelaw23_works.f=some true from rfl,Option.bind_some,if_pos rfl]
  have jt:∀ x,complinelaw23_RearmLeft.j0 60 a n L true true k0 p l b0 s0 b1 s1 b2 s2 b3 s3 b4 s4=x→x=some true:=by
    intro x h
    rw [← h,show (60:Nat)=59+1 from rfl,complinelaw23_RearmLeft.j0,if_pos rfl]
  by_cases c1:n < 1
  · rw [if_pos c1]; exact jt _ rfl
  rw [if_neg c1]
  by_cases c2:n > 40
  · rw [if_pos c2]; exact jt _ rfl
  rw [if_neg c2]
  by_cases c3:(L.length:Int) < n
  · rw [if_pos c3]; exact jt _ rfl
  rw [if_neg c3]
  by_cases c0:k0=1
  case neg=>rw [if_neg c0]; exact jt _ rfl
  rw [if_pos c0]
  by_cases c6:p=0
  · rw [if_pos c6]; exact jt _ rfl
  rw [if_neg c6]
  by_cases c4:p > 1000000
  · rw [if_pos c4]; exact jt _ rfl
  rw [if_neg c4]
  by_cases c5:a > 1000000
  · rw [decide_eq_true c5]; exact jt _ rfl
  rw [decide_eq_false c5,show (60:Nat)=59+1 from rfl,complinelaw23_RearmLeft.j0,if_neg Bool.false_ne_true]
  obtain ⟨P,rfl⟩:∃ x:Nat,p=x:=⟨p.toNat,by omega⟩
  obtain ⟨A,rfl⟩:∃ x:Nat,a=x:=⟨a.toNat,by omega⟩
  obtain ⟨d,rfl⟩:∃ d:Nat,n=((d+1:Nat):Int):=⟨n.toNat - 1,by omega⟩
  have h:=Rea.left_l P (d+1) (by omega) (by omega) (by omega) L hL' (by omega) k0 l b0 s0 b1 s1 b2 s2 b3 s3 b4 s4 d 1 (58 - d) A (by omega) (by omega) (by omega)
  rw [show 58 - d+d+1=59 by omega] at h
  exact h
end Go.Proofs.YtepflnfnkfkldaaDoor.PRea
namespace Go.Proofs.YtepflnfnkfkldaaDoor.Pure
open Go.RowKit Go.Proofs.YtepflnfnkfkldaaDoorW.PrintWords Go.Proofs.YtepflnfnkfkldaaDoorW.PrintLast Go.Proofs.YtepflnfnkfkldaaDoorW.PrintMore Go.Proofs.YtepflnfnkfkldaaDoor.PRea
theorem RearmLeft:∀ (a0_0:Int)(a0_1:Int)(a0_2:Int)(a0_3:Int)(a0_4:Bool)(a0_5:Int)(a0_6:Bool)(a0_7:Int)(a0_8:Bool)(a0_9:Int)(a0_10:Bool)(a0_11:Int)(a0_12:Bool)(a1:Int)(a2:Int)(l3:List Int),(Lit.int .i64 a0_0).wf=true→(Lit.int .u64 a0_1).wf=true→(Lit.int .i64 a0_2).wf=true→(Lit.int .u64 a0_3).wf=true→(Lit.int .u64 a0_5).wf=true→(Lit.int .u64 a0_7).wf=true→(Lit.int .u64 a0_9).wf=true→(Lit.int .u64 a0_11).wf=true→(Lit.int .u64 a1).wf=true→(Lit.int .i64 a2).wf=true→(∀ x ∈ l3,(Lit.int .u64 x).wf=true)→∃ k,complinelaw23_RearmLeft.f k a0_0 a0_1 a0_2 a0_3 a0_4 a0_5 a0_6 a0_7 a0_8 a0_9 a0_10 a0_11 a0_12 a1 a2 l3=some true:=fun a0_0 a0_1 a0_2 a0_3 a0_4 a0_5 a0_6 a0_7 a0_8 a0_9 a0_10 a0_11 a0_12 a1 a2 l3 h0_ h1_ h2_ h3_ h4_ h5_ h6_ h7_ h8_ h9_ h10_=>RearmLeft_p a0_0 a0_1 a0_2 a0_3 a0_4 a0_5 a0_6 a0_7 a0_8 a0_9 a0_10 a0_11 a0_12 a1 a2 l3 h0_ h1_ h2_ h3_ h4_ h5_ h6_ h7_ h8_ h9_ h10_
end Go.Proofs.YtepflnfnkfkldaaDoor.Pure
