/- What rearm tells, as plain numbers. No condition. -/
import Derived.Test.YtepflnfnkfkldaaDoorPReax10
import Derived.Lib.BitFns
namespace Go.Proofs.YtepflnfnkfkldaaDoor.PRea
open Go.RowKit Go.Proofs.YtepflnfnkfkldaaDoorW.PrintWords Go.Proofs.YtepflnfnkfkldaaDoorW.PrintLast Go.Proofs.YtepflnfnkfkldaaDoorW.PrintMore
set_option linter.unusedVariables false
set_option linter.unusedSimpArgs false
def Lex.limits (kind:Int):Int × Int × Int:=
  if kind=0 then (0,59,0) else if kind=1 then (0,23,0) else if kind=2 then (1,31,0) else if kind=3 then (1,12,0) else if kind=4 then (0,7,0) else (0,0,7)
theorem Lex.limits_f (kind:Int):lex_Limits.f kind=some (Lex.limits kind):=by
  unfold lex_Limits.f Lex.limits
  repeat' split
  all_goals rfl
theorem Fld.limits_f (kind:Int):field_limits.f kind=some ((Lex.limits kind).1,(if kind=4 then 6 else (Lex.limits kind).2.1),(Lex.limits kind).2.2):=by
  unfold field_limits.f
  rw [Lex.limits_f]
  by_cases h:kind=4
  · simp [h]
  · simp [h]
/-! Bits of a whole number, and what field's functions tell of them. -/
theorem u64w (z:Int):IntKind.u64.wrap z=z % 18446744073709551616:=by simp [IntKind.wrap,IntKind.bits,IntKind.signed]
def InU (b:Int):Prop:=0≤b∧b < 18446744073709551616
/-- Bit i of a whole number. -/
def bitAt (b:Int)(i:Nat):Bool:=b.toNat.testBit i
theorem nat_of (b:Int)(h:InU b):∃ n:Nat,b=n∧n < 2 ^ 64:=by
  obtain ⟨n,rfl⟩ :=Int.eq_ofNat_of_zero_le h.1
  exact ⟨n,rfl,by have:=h.2; omega⟩
theorem eq_of_bits {a b:Int}(ha:InU a)(hb:InU b)(h:∀ i,i < 64→bitAt a i=bitAt b i):a=b:=by
  obtain ⟨n,rfl,hn⟩ :=nat_of a ha
  obtain ⟨m,rfl,hm⟩ :=nat_of b hb
  have:n=m:=by
    apply Nat.eq_of_testBit_eq
    intro i
    by_cases hi:i < 64
    · exact h i hi
    · rw [Nat.testBit_lt_two_pow (Nat.lt_of_lt_of_le hn (Nat.pow_le_pow_right (by decide) (by omega))),Nat.testBit_lt_two_pow (Nat.lt_of_lt_of_le hm (Nat.pow_le_pow_right (by decide) (by omega)))]
  rw [this]
theorem bit_zero (i:Nat):bitAt 0 i=false:=by simp [bitAt]
theorem bit_big {b:Int}(h:InU b){i:Nat}(hi:64≤i):bitAt b i=false:=by
  obtain ⟨n,rfl,hn⟩ :=nat_of b h
  exact Nat.testBit_lt_two_pow (Nat.lt_of_lt_of_le hn (Nat.pow_le_pow_right (by decide) hi))
/-- All values from one to another one. -/
def evB (lo hi:Nat):Int:=((2 ^ (hi+1) - 2 ^ lo:Nat):Int)
theorem sub_testBit (lo:Nat):∀ (d i:Nat),(2 ^ (lo+d) - 2 ^ lo).testBit i=(decide (lo≤i) && decide (i < lo+d)):=by
  intro d i
  have e:2 ^ (lo+d) - 2 ^ lo=2 ^ lo*(2 ^ d - 1):=by rw [Nat.pow_add,Nat.mul_sub,Nat.mul_one]
  rw [e,Nat.testBit_two_pow_mul,Nat.testBit_two_pow_sub_one]
  by_cases h:lo≤i
  · simp [h]; omega
  · simp [h]
theorem bit_ev (lo hi i:Nat)(h:lo≤hi+1):bitAt (evB lo hi) i=(decide (lo≤i) && decide (i≤hi)):=by
  unfold bitAt evB
  rw [Int.toNat_natCast]
  obtain ⟨d,hd⟩:∃ d,hi+1=lo+d:=⟨hi+1 - lo,by omega⟩
  rw [hd,sub_testBit]
  congr 1
  simp; omega
theorem ev_in (lo hi:Nat)(h:hi≤62):InU (evB lo hi):=by
  unfold evB InU
  have:2 ^ (hi+1)≤2 ^ 63:=Nat.pow_le_pow_right (by decide) (by omega)
  rw [show (2:Nat) ^ 63=9223372036854775808 by decide] at this
  generalize (2:Nat) ^ (hi+1)=q at this ⊢
  generalize (2:Nat) ^ lo=r
  omega
theorem shl_one (n:Nat)(h:n < 64):shl .u64 1 (n:Int)=((2 ^ n:Nat):Int):=by
  have:=Nat.pow_lt_pow_right (a:=2) (by decide) h
  unfold shl
  rw [u64w,show min ((n:Int).toNat) (IntKind.bits .u64)=n by simp [IntKind.bits]; omega]
  simp only [Int.one_mul]
  rw [show (2:Int) ^ n=((2 ^ n:Nat):Int) by simp]
  rw [show (2:Nat) ^ 64=18446744073709551616 by decide] at this
  generalize (2:Nat) ^ n=q at this ⊢
  omega
theorem shr_nat (a n:Nat)(h:n < 64):shr .u64 (a:Int) (n:Int)=((a / 2 ^ n:Nat):Int):=by
  unfold shr
  rw [show min ((n:Int).toNat) (IntKind.bits .u64)=n by simp [IntKind.bits]; omega]
  rw [show (2:Int) ^ n=((2 ^ n:Nat):Int) by simp]
  simp
theorem shl_nat (a n:Nat)(h:n < 64):shl .u64 (a:Int) (n:Int)=((a*2 ^ n % 2 ^ 64:Nat):Int):=by
  unfold shl
  rw [u64w,show min ((n:Int).toNat) (IntKind.bits .u64)=n by simp [IntKind.bits]; omega]
  rw [show (2:Int) ^ n=((2 ^ n:Nat):Int) by simp]
  generalize 2 ^ n=q
  rw [show (2:Nat) ^ 64=18446744073709551616 by decide,Int.natCast_emod,Int.natCast_mul]
  rfl
theorem every_f (lo hi:Nat)(h:lo≤hi)(h2:hi≤62):field_every.f (lo:Int) (hi:Int)=some (evB lo hi):=by
  have hw1:wrap64 ((hi:Int)+1)=((hi+1:Nat):Int):=by unfold wrap64; omega
  have hw2:IntKind.u64.wrap ((hi+1:Nat):Int)=((hi+1:Nat):Int):=by rw [u64w]; omega
  have hw3:IntKind.u64.wrap (lo:Int)=(lo:Int):=by rw [u64w]; omega
  unfold field_every.f
  rw [hw1,hw2,hw3,if_pos (by omega),if_pos (by omega),shl_one _ (by omega),shl_one _ (by omega)]
  have h3:2 ^ lo≤2 ^ (hi+1):=Nat.pow_le_pow_right (by decide) (by omega)
  have h4:2 ^ (hi+1)≤2 ^ 63:=Nat.pow_le_pow_right (by decide) (by omega)
  congr 1
  unfold evB
  rw [u64w]
  rw [show (2:Nat) ^ 63=9223372036854775808 by decide] at h4
  generalize (2:Nat) ^ (hi+1)=q at h3 h4 ⊢
  generalize (2:Nat) ^ lo=r at h3 ⊢
  omega
theorem andNot_zero (a b:Int)(ha:InU a)(hb:InU b):(Go.bits .andNot .u64 a b=0)↔∀ i,i < 64→bitAt a i=true→bitAt b i=true:=by
  obtain ⟨n,rfl,hn⟩ :=nat_of a ha
  obtain ⟨m,rfl,hm⟩ :=nat_of b hb
  have e:Go.bits .andNot .u64 (n:Int) (m:Int)=((BitVec.ofNat 64 n &&& ~~~ BitVec.ofNat 64 m).toNat:Int):=by
    have:=(BitVec.ofNat 64 n &&& ~~~ BitVec.ofNat 64 m).isLt
    show IntKind.u64.wrap ((BitVec.ofInt 64 (n:Int) &&& ~~~ BitVec.ofInt 64 (m:Int)).toNat:Int)=_
    rw [BitVec.ofInt_natCast,BitVec.ofInt_natCast,u64w]
    omega
  rw [e]
  have hz:((BitVec.ofNat 64 n &&& ~~~ BitVec.ofNat 64 m).toNat:Int)=0↔(BitVec.ofNat 64 n &&& ~~~ BitVec.ofNat 64 m)=0#64:=by
    constructor
    · intro h; apply BitVec.eq_of_toNat_eq; simpa using h
    · intro h; rw [h]; rfl
  rw [hz]
  constructor
  · intro h i hi hb
    have:=congrArg (fun v=>v.getLsbD i) h
    simp only [BitVec.getLsbD_and,BitVec.getLsbD_not,BitVec.getLsbD_ofNat,hi,decide_true,Bool.true_and,BitVec.getLsbD_zero] at this
    unfold bitAt at hb ⊢
    rw [Int.toNat_natCast] at hb ⊢
    rw [hb] at this
    simpa using this
  · intro h
    apply BitVec.eq_of_getLsbD_eq
    intro i hi
    simp only [BitVec.getLsbD_and,BitVec.getLsbD_not,BitVec.getLsbD_ofNat,hi,decide_true,Bool.true_and,BitVec.getLsbD_zero]
    have:=h i hi
    unfold bitAt at this
    rw [Int.toNat_natCast,Int.toNat_natCast] at this
    cases h1:n.testBit i
    · simp
    · rw [this h1]; simp
def top (kind:Int):Int:=if kind=4 then 6 else (Lex.limits kind).2.1
theorem check_f (b : Int) (s : Bool) (kind : Int) (lo hi : Nat) (hk : (Lex.limits kind).2.2 = 0) (hlo : (Lex.limits kind).1 = lo) (hhi : top kind = hi) (h1 : lo ≤ hi) (h2 : hi ≤ 59) :
    field_Check.f b s kind=if b=0 then some 2 else if Go.bits .andNot .u64 b (evB lo hi)=0 then (if s=true then (if b=evB lo hi then some 0 else some 2) else some 0) else some 2:=by
  unfold field_Check.f
  rw [Fld.limits_f]
  simp only [Option.bind_some]
  rw [if_pos hk,hlo,show (if kind=4 then 6 else (Lex.limits kind).2.1)=(hi:Int) from hhi,every_f lo hi h1 (by omega)]
  rfl
theorem wf_in (a:Int)(h:(Lit.int .u64 a).wf=true):InU a:=by
  unfold InU
  simp [Lit.wf] at h
  obtain ⟨h1,h2⟩ :=h
  have h1':(0:Int)≤a:=h1
  have h2':a≤18446744073709551615:=h2
  omega
theorem chk_tot (b:Int)(s:Bool)(i:Nat)(hi:i < 5):∃ e,field_Check.f b s (i:Int)=some e:=by
  have key:∀ (kind:Int) (lo hi:Nat),(Lex.limits kind).2.2=0→(Lex.limits kind).1=lo→top kind=hi→lo≤hi→hi≤59→∃ e,field_Check.f b s kind=some e:=by
    intro kind lo hi hk hlo hhi h1 h2
    rw [check_f b s kind lo hi hk hlo hhi h1 h2]
    repeat' split
    all_goals exact ⟨_,rfl⟩
  rcases (by omega:i=0∨i=1∨i=2∨i=3∨i=4) with rfl | rfl | rfl | rfl | rfl
  · exact key 0 0 59 rfl rfl rfl (by decide) (by decide)
  · exact key 1 0 23 rfl rfl rfl (by decide) (by decide)
  · exact key 2 1 31 rfl rfl rfl (by decide) (by decide)
  · exact key 3 1 12 rfl rfl rfl (by decide) (by decide)
  · exact key 4 0 6 rfl rfl rfl (by decide) (by decide)
theorem okS_of {b0 b1 b2 b3 b4:Int}(h0:InU b0)(h1:InU b1)(h2:InU b2)(h3:InU b3)(h4:InU b4):Dy.okS b0 b1 b2 b3 b4=true:=decide_eq_true ⟨h0,h1,h2,h3,h4⟩
theorem odd_is (b0 : Int) (s0 : Bool) (b1 : Int) (s1 : Bool) (b2 : Int) (s2 : Bool) (b3 : Int) (s3 : Bool) (b4 : Int) (s4 : Bool) :
    ∃ ob,day_odd.f b0 s0 b1 s1 b2 s2 b3 s3 b4 s4=some ob∧(ob=false→field_Check.f b0 s0 0=some 0∧field_Check.f b1 s1 1=some 0∧field_Check.f b2 s2 2=some 0∧field_Check.f b3 s3 3=some 0∧field_Check.f b4 s4 4=some 0):=by
  obtain ⟨e0,q0⟩:∃ e,field_Check.f b0 s0 0=some e:=chk_tot b0 s0 0 (by decide)
  obtain ⟨e1,q1⟩:∃ e,field_Check.f b1 s1 1=some e:=chk_tot b1 s1 1 (by decide)
  obtain ⟨e2,q2⟩:∃ e,field_Check.f b2 s2 2=some e:=chk_tot b2 s2 2 (by decide)
  obtain ⟨e3,q3⟩:∃ e,field_Check.f b3 s3 3=some e:=chk_tot b3 s3 3 (by decide)
  obtain ⟨e4,q4⟩:∃ e,field_Check.f b4 s4 4=some e:=chk_tot b4 s4 4 (by decide)
  unfold day_odd.f spec_Check.f
  rw [q0]
  simp only [Option.bind_some]
  by_cases c0:e0≠0
  · rw [if_pos c0]; exact ⟨_,rfl,fun h=>absurd (by simpa using h) c0⟩
  obtain rfl:e0=0:=by simpa using c0
  rw [if_neg c0,q1]
  simp only [Option.bind_some]
  by_cases c1:e1≠0
  · rw [if_pos c1]; exact ⟨_,rfl,fun h=>absurd (by simpa using h) c1⟩
  obtain rfl:e1=0:=by simpa using c1
  rw [if_neg c1,q2]
  simp only [Option.bind_some]
  by_cases c2:e2≠0
  · rw [if_pos c2]; exact ⟨_,rfl,fun h=>absurd (by simpa using h) c2⟩
  obtain rfl:e2=0:=by simpa using c2
  rw [if_neg c2,q3]
  simp only [Option.bind_some]
  by_cases c3:e3≠0
  · rw [if_pos c3]; exact ⟨_,rfl,fun h=>absurd (by simpa using h) c3⟩
  obtain rfl:e3=0:=by simpa using c3
  rw [if_neg c3,q4]
  simp only [Option.bind_some]
  by_cases c4:e4≠0
  · rw [if_pos c4]; exact ⟨_,rfl,fun h=>absurd (by simpa using h) c4⟩
  obtain rfl:e4=0:=by simpa using c4
  rw [if_neg c4]
  exact ⟨_,rfl,fun _=>by simp⟩
/-- A mask, as a whole number and its bits. -/
theorem mask_bits (ob : Bool) (b2 : Int) (s2 : Bool) (b3 b4 : Int) (s4 : Bool) (y m : Int) : ∃ N : Nat, (Dy.mask ob b2 s2 b3 b4 s4 y m).1 = (N : Int) ∧ N < 2 ^ 32 ∧ ((Dy.mask ob b2 s2 b3 b4 s4 y m).2 ≠ 0 → N = 0) ∧
    ((Dy.mask ob b2 s2 b3 b4 s4 y m).2=0→ob=false∧(Civ.day y m 1).2=0∧∀ d,N.testBit d=(Dy.has b3 m && (decide (1≤d) && decide ((d:Int)≤Civ.len y m) && Dy.dayP b2 s2 b4 s4 (Civ.day y m 1).1 (d - 1)))):=by
  unfold Dy.mask
  cases ob with
  | true=>rw [if_pos rfl]; exact ⟨0,rfl,by decide,fun _=>rfl,fun h=>absurd h (by decide)⟩
  | false=>
    rw [if_neg (by decide)]
    by_cases he:(Civ.day y m 1).2=0
    · rw [if_neg (by simp [he])]
      have hb:=Civ.len_bd y m
      cases hx:Dy.has b3 m with
      | false=>rw [if_neg (by decide)]; exact ⟨0,rfl,by decide,fun _=>rfl,fun _=>⟨rfl,he,fun d=>by simp⟩⟩
      | true=>
        rw [if_pos rfl]
        refine ⟨Dy.maskN (Dy.dayP b2 s2 b4 s4 (Civ.day y m 1).1) (Civ.len y m).toNat,rfl,?_,fun h=>absurd rfl h,fun _=>⟨rfl,he,fun d=>?_⟩⟩
        · exact Nat.lt_of_lt_of_le (Dy.maskN_lt _ _) (Nat.pow_le_pow_right (by decide) (by omega))
        · rw [Dy.maskN_bit,Bool.true_and]
          congr 2
          rw [decide_eq_decide]
          omega
    · rw [if_pos he]; exact ⟨0,rfl,by decide,fun _=>rfl,fun h=>absurd h (by decide)⟩
theorem shr32 (N d:Nat)(h:d < 32):shr .u32 (N:Int) (d:Int)=((N / 2 ^ d:Nat):Int):=by
  unfold shr
  rw [show min ((d:Int).toNat) (IntKind.bits .u32)=d by simp [IntKind.bits]; omega]
  rw [show (2:Int) ^ d=((2 ^ d:Nat):Int) by simp]
  simp
theorem bit32 (N d:Nat)(hN:N < 2 ^ 32)(h:d < 32):Go.bits .and .u32 (shr .u32 (N:Int) (d:Int)) 1=if N.testBit d=true then 1 else 0:=by
  rw [shr32 N d h,show (1:Int)=((1:Nat):Int) from rfl,(Dy.bits_u32 _ 1 (by have:=Nat.div_le_self N (2 ^ d); omega) (by decide)).1]
  have e:(N / 2 ^ d) &&& 1=N / 2 ^ d % 2:=Nat.and_one_is_mod _
  rw [e,Nat.testBit_eq_decide_div_mod_eq]
  by_cases hb:N / 2 ^ d % 2=1
  · rw [decide_eq_true hb,if_pos rfl,hb]
  · rw [decide_eq_false hb,if_neg (by decide),show N / 2 ^ d % 2=0 by omega]; rfl
def f1 (b:Nat):Nat:=(b / 2 &&& 85)+(b &&& 85)
def f2 (b:Nat):Nat:=(b / 4 &&& 51)+(b &&& 51)
theorem d1:∀ b:Fin 256,∀ r:Fin 2,((b.val / 2+128*r.val) &&& 85)=(b.val / 2 &&& 85)∧b.val / 2+128*r.val < 256∧f1 b.val < 256:=by decide +kernel
theorem d2:∀ b:Fin 256,∀ r:Fin 4,((b.val / 4+64*r.val) &&& 51)=(b.val / 4 &&& 51)∧b.val / 4+64*r.val < 256∧f2 b.val < 256:=by decide +kernel
/-! The first and the last of a row of whole numbers that meet a test, and how many do. -/
def Nx.find (p:Nat→Bool):Nat→Nat→Option Nat
  | 0,_=>none
  | n+1,i=>if p i=true then some i else Nx.find p n (i+1)
theorem Nx.find_some {p:Nat→Bool}:∀ {n i r:Nat},Nx.find p n i=some r→i≤r∧r < i+n∧p r=true∧∀ j,i≤j→j < r→p j=false
  | 0,i,r,h=>by simp [Nx.find] at h
  | n+1,i,r,h=>by
    unfold Nx.find at h
    by_cases hp:p i=true
    · rw [if_pos hp] at h
      obtain rfl:=Option.some.inj h
      exact ⟨Nat.le_refl _,by omega,hp,fun j h1 h2=>by omega⟩
    · rw [if_neg hp] at h
      obtain ⟨h1,h2,h3,h4⟩ :=Nx.find_some h
      refine ⟨by omega,by omega,h3,fun j q1 q2=>?_⟩
      by_cases e:j=i
      · subst e; simpa using hp
      · exact h4 j (by omega) q2
theorem Nx.find_none {p:Nat→Bool}:∀ {n i:Nat},Nx.find p n i=none→∀ j,i≤j→j < i+n→p j=false
  | 0,i,h=>fun j h1 h2=>by omega
  | n+1,i,h=>by
    unfold Nx.find at h
    by_cases hp:p i=true
    · rw [if_pos hp] at h; cases h
    · rw [if_neg hp] at h
      intro j h1 h2
      by_cases e:j=i
      · subst e; simpa using hp
      · exact Nx.find_none h j (by omega) (by omega)
theorem Nx.find_is {p:Nat→Bool}:∀ {n i r:Nat},i≤r→r < i+n→p r=true→(∀ j,i≤j→j < r→p j=false)→Nx.find p n i=some r
  | 0,i,r,h1,h2,_,_=>by omega
  | n+1,i,r,h1,h2,h3,h4=>by
    unfold Nx.find
    by_cases e:i=r
    · subst e; rw [if_pos h3]
    · rw [if_neg (by rw [h4 i (Nat.le_refl _) (by omega)]; decide)]
      exact Nx.find_is (by omega) (by omega) h3 (fun j q1 q2=>h4 j (by omega) q2)
theorem Nx.find_no {p:Nat→Bool}:∀ {n i:Nat},(∀ j,i≤j→j < i+n→p j=false)→Nx.find p n i=none
  | 0,i,_=>rfl
  | n+1,i,h=>by
    unfold Nx.find
    rw [if_neg (by rw [h i (Nat.le_refl _) (by omega)]; decide)]
    exact Nx.find_no (fun j q1 q2=>h j (by omega) (by omega))
/-- The next one, the last one ahead, and how many: of minutes. -/
def Nx.next (ob:Bool)(p:Nat→Bool)(m:Int):Int × Int:=
  if ob=true then (0,2) else if 541727999≤m then (0,11) else
  match Nx.find p (541728000 - (max m (-1)+1).toNat) (max m (-1)+1).toNat with
  | some r=>((r:Int),0)
  | none=>(0,11)
/-! The times of a day that match. -/
def Nx.bit (b:Int)(i:Nat):Bool:=Dy.bitAt b i
def Nx.dayB (b2:Int)(s2:Bool)(b3 b4:Int)(s4:Bool)(D:Int):Bool:=Dy.has b3 (1+(Civ.mi D:Int)) && Dy.by_ b2 s2 b4 s4 (Civ.dy D) ((D+4) % 7)
def Nx.timB (b0 b1:Int)(u:Nat):Bool:=Nx.bit b1 (u / 60) && Nx.bit b0 (u % 60)
theorem Nx.has_nat (b:Int)(i:Nat)(h:i < 64):Dy.has b (i:Int)=Nx.bit b i:=by
  unfold Dy.has Nx.bit
  rw [decide_eq_true (by omega:(0:Int)≤i),decide_eq_true (by omega:(i:Int) < 64),Int.toNat_natCast]
  rfl
/-- The first bit from one on, and the last one up to one. -/
def Nx.fst (b:Int)(v:Nat):Option Nat:=Nx.find (Nx.bit b) (64 - v) v
def Nx.soonR (b0 b1:Int)(t:Nat):Option Nat:=
  match (if Nx.bit b1 (t / 60)=true then Nx.fst b0 (t % 60) else none) with
  | some m=>some (t / 60*60+m)
  | none=>match Nx.fst b1 (t / 60+1) with
    | some h=>some (h*60+(Nx.fst b0 0).getD 0)
    | none=>none
theorem Nx.fst_some {b:Int}{v r:Nat}(h:Nx.fst b v=some r):v≤r∧r < 64∧Nx.bit b r=true∧∀ j,v≤j→j < r→Nx.bit b j=false:=by
  obtain ⟨h1,h2,h3,h4⟩ :=Nx.find_some h
  exact ⟨h1,by omega,h3,h4⟩
theorem Nx.fst_none {b:Int}{v:Nat}(h:Nx.fst b v=none):∀ j,v≤j→j < 64→Nx.bit b j=false:=fun j h1 h2=>Nx.find_none h j h1 (by omega)
theorem Nx.soon_is {b0 b1:Int}(h0:∀ i,Nx.bit b0 i=true→i < 60)(hne:∃ i,Nx.bit b0 i=true)(h1:∀ i,Nx.bit b1 i=true→i < 24){t:Nat}(ht:t < 1440):Nx.soonR b0 b1 t=Nx.find (Nx.timB b0 b1) (1440 - t) t:=by
  have hd:t=t / 60*60+t % 60:=by omega
  unfold Nx.soonR
  cases hA:(if Nx.bit b1 (t / 60)=true then Nx.fst b0 (t % 60) else none) with
  | some m=>
    have hH:Nx.bit b1 (t / 60)=true:=by
      cases hq:Nx.bit b1 (t / 60) with
      | true=>rfl
      | false=>rw [hq,if_neg (by decide)] at hA; cases hA
    rw [if_pos hH] at hA
    obtain ⟨q1,q2,q3,q4⟩ :=Nx.fst_some hA
    have q5:=h0 m q3
    symm
    refine Nx.find_is (by omega) (by omega) ?_ ?_
    · unfold Nx.timB
      rw [show (t / 60*60+m) / 60=t / 60 by omega,show (t / 60*60+m) % 60=m by omega,hH,q3]; rfl
    · intro j j1 j2
      unfold Nx.timB
      rw [q4 (j % 60) (by omega) (by omega),Bool.and_false]
  | none=>
    have hB:∀ j,t≤j→j < (t / 60+1)*60→Nx.timB b0 b1 j=false:=by
      intro j j1 j2
      unfold Nx.timB
      rw [show j / 60=t / 60 by omega]
      cases hq:Nx.bit b1 (t / 60) with
      | false=>rfl
      | true=>
        rw [hq,if_pos rfl] at hA
        rw [Nx.fst_none hA (j % 60) (by omega) (by omega)]; rfl
    dsimp only
    cases hC:Nx.fst b1 (t / 60+1) with
    | some h=>
      obtain ⟨q1,q2,q3,q4⟩ :=Nx.fst_some hC
      have q5:=h1 h q3
      cases hM:Nx.fst b0 0 with
      | none=>
        obtain ⟨i,hi⟩ :=hne
        have:=Nx.fst_none hM i (by omega) (by have:=h0 i hi; omega)
        rw [hi] at this; cases this
      | some m=>
        obtain ⟨_,r2,r3,r4⟩ :=Nx.fst_some hM
        have r5:=h0 m r3
        symm
        show Nx.find (Nx.timB b0 b1) (1440 - t) t=some (h*60+m)
        refine Nx.find_is (by omega) (by omega) ?_ ?_
        · unfold Nx.timB
          rw [show (h*60+m) / 60=h by omega,show (h*60+m) % 60=m by omega,q3,r3]; rfl
        · intro j j1 j2
          by_cases c1:j < (t / 60+1)*60
          · exact hB j j1 c1
          · unfold Nx.timB
            by_cases c2:j < h*60
            · rw [q4 (j / 60) (by omega) (by omega)]; rfl
            · rw [r4 (j % 60) (by omega) (by omega),Bool.and_false]
    | none=>
      symm
      refine Nx.find_no (fun j j1 j2=>?_)
      by_cases c1:j < (t / 60+1)*60
      · exact hB j j1 c1
      · unfold Nx.timB
        rw [Nx.fst_none hC (j / 60) (by omega) (by omega)]; rfl
/-! The months, their days that match, and the first minute of them that does. -/
/-- What is known of a month: its first day, how long it is, and which of its days match. -/
structure Nx.Mon (dB:Nat→Bool) (F L N:Nat):Prop where
  bits:∀ d,1≤d→d≤31→N.testBit d=(decide (d≤L) && dB (F+d - 1))
  len:L≤31
def Nx.dayScan (b0 b1:Int)(N F:Nat)(z:Bool)(cd ct:Nat):Nat→Nat→Option Nat
  | 0,_=>none
  | f+1,d=>
    if N.testBit d=false∨(z=true∧d < cd) then Nx.dayScan b0 b1 N F z cd ct f (d+1) else
    match Nx.soonR b0 b1 (if z=true∧d=cd then ct else 0) with
    | some u=>some ((F+d - 1)*1440+u)
    | none=>Nx.dayScan b0 b1 N F z cd ct f (d+1)
/-- r is the first one from lo on, ahead of hi, or there is none. -/
def Nx.Res (p:Nat→Bool)(lo hi:Nat):Option Nat→Prop
  | some r=>lo≤r∧r < hi∧p r=true∧∀ t,lo≤t→t < r→p t=false
  | none=>∀ t,lo≤t→t < hi→p t=false
theorem Nx.Res.find {p:Nat→Bool}{lo hi:Nat}(h:lo≤hi):∀ {o:Option Nat},Nx.Res p lo hi o→Nx.find p (hi - lo) lo=o
  | some r,⟨h1,h2,h3,h4⟩ =>Nx.find_is h1 (by omega) h3 h4
  | none,h1=>Nx.find_no (fun j q1 q2=>h1 j q1 (by omega))
theorem Nx.Res.more {p:Nat→Bool}{lo mid hi:Nat}(h:∀ t,lo≤t→t < mid→p t=false)(hm:lo≤mid):∀ {o:Option Nat},Nx.Res p mid hi o→Nx.Res p lo hi o
  | some r, ⟨h1, h2, h3, h4⟩ => ⟨by omega, h2, h3, fun t q1 q2 => by
      by_cases c:t < mid
      · exact h t q1 c
      · exact h4 t (by omega) q2⟩
  | none, h1 => fun t q1 q2 => by
      by_cases c:t < mid
      · exact h t q1 c
      · exact h1 t (by omega) q2
theorem Nx.Res.some_more {p:Nat→Bool}{lo hi hi' r:Nat}(hh:hi≤hi')(h:Nx.Res p lo hi (some r)):Nx.Res p lo hi' (some r):=⟨h.1,by have:=h.2.1; omega,h.2.2.1,h.2.2.2⟩
theorem Nx.dayScan_out {dB:Nat→Bool}{b0 b1:Int}{F L N:Nat}(hM:Nx.Mon dB F L N)(z:Bool)(cd ct:Nat):∀ (f d:Nat),d+f=32→L < d→Nx.dayScan b0 b1 N F z cd ct f d=none
  | 0,_,_,_=>rfl
  | f+1,d,h,hd=>by
    have hbit:=hM.bits d (by omega) (by omega)
    rw [decide_eq_false (by omega),Bool.false_and] at hbit
    unfold Nx.dayScan
    rw [if_pos (.inl hbit)]
    exact Nx.dayScan_out hM z cd ct f (d+1) (by omega) (by omega)
theorem Nx.dayScan_spec {dB : Nat → Bool} {b0 b1 : Int} {F L N : Nat} (hM : Nx.Mon dB F L N) (hS : ∀ t, t < 1440 → Nx.soonR b0 b1 t = Nx.find (Nx.timB b0 b1) (1440 - t) t) (z : Bool) (cd ct : Nat) (hct : ct < 1440) (hcd1 : 1 ≤ cd) (hcd2 : cd ≤ L) :
    ∀ (f d lo:Nat),d+f=32→1≤d→d≤L+1→lo=(if z=true∧d≤cd then (F+cd - 1)*1440+ct else (F+d - 1)*1440)→
      Nx.Res (fun t=>dB (t / 1440) && Nx.timB b0 b1 (t % 1440)) lo ((F+L)*1440) (Nx.dayScan b0 b1 N F z cd ct f d)
  | 0,d,lo,h,hd,hdl,hlo=>by
    have hL:=hM.len
    rw [if_neg (by omega)] at hlo
    intro t q1 q2
    exfalso
    rw [show d=L+1 by omega,show F+(L+1) - 1=F+L by omega] at hlo
    omega
  | f+1,d,lo,h,hd,hdl,hlo=>by
    have hL:=hM.len
    by_cases hout:d=L+1
    · rw [Nx.dayScan_out hM z cd ct (f+1) d h (by omega)]
      rw [if_neg (by omega)] at hlo
      intro t q1 q2
      exfalso
      rw [hout,show F+(L+1) - 1=F+L by omega] at hlo
      omega
    have hbit:=hM.bits d hd (by omega)
    rw [decide_eq_true (by omega),Bool.true_and] at hbit
    unfold Nx.dayScan
    by_cases c1:z=true∧d < cd
    · rw [if_pos (.inr c1)]
      exact Nx.dayScan_spec hM hS z cd ct hct hcd1 hcd2 f (d+1) lo (by omega) (by omega) (by omega) (by rw [hlo,if_pos ⟨c1.1,by omega⟩,if_pos ⟨c1.1,by omega⟩])
    · -- the day at hand, from t0 on
      have key : ∀ t0 : Nat, t0 < 1440 → lo = (F + d - 1) * 1440 + t0 → (if z = true ∧ d = cd then ct else 0) = t0 →
          Nx.Res (fun t=>dB (t / 1440) && Nx.timB b0 b1 (t % 1440)) lo ((F+L)*1440) (if N.testBit d=false∨(z=true∧d < cd) then Nx.dayScan b0 b1 N F z cd ct f (d+1) else
            match Nx.soonR b0 b1 (if z=true∧d=cd then ct else 0) with
            | some u=>some ((F+d - 1)*1440+u)
            | none=>Nx.dayScan b0 b1 N F z cd ct f (d+1)):=by
        intro t0 ht0 e0 et
        have hlo2:(F+(d+1) - 1)*1440=(if z=true∧d+1≤cd then (F+cd - 1)*1440+ct else (F+(d+1) - 1)*1440):=by
          rw [if_neg (by rintro ⟨q1,q2⟩; exact c1 ⟨q1,by omega⟩)]
        have ih:=Nx.dayScan_spec hM hS z cd ct hct hcd1 hcd2 f (d+1) _ (by omega) (by omega) (by omega) hlo2
        have next:(∀ u,t0≤u→u < 1440→(dB (F+d - 1) && Nx.timB b0 b1 u)=false)→Nx.Res (fun t=>dB (t / 1440) && Nx.timB b0 b1 (t % 1440)) lo ((F+L)*1440) (Nx.dayScan b0 b1 N F z cd ct f (d+1)):=by
          intro hno
          refine Nx.Res.more (mid:=(F+(d+1) - 1)*1440) (fun t q1 q2=>?_) (by omega) ih
          have e:t / 1440=F+d - 1:=by omega
          show (dB (t / 1440) && Nx.timB b0 b1 (t % 1440))=false
          rw [e]
          exact hno (t % 1440) (by omega) (by omega)
        rw [et]
        by_cases hb:N.testBit d=false
        · rw [if_pos (.inl hb)]
          exact next (fun u _ _=>by rw [← hbit,hb]; rfl)
        · rw [if_neg (by rintro (q | q); exact hb q; exact c1 q),hS t0 ht0]
          have hb':dB (F+d - 1)=true:=by rw [← hbit]; simpa using hb
          cases hf:Nx.find (Nx.timB b0 b1) (1440 - t0) t0 with
          | none=>exact next (fun u q1 q2=>by rw [Nx.find_none hf u q1 (by omega),Bool.and_false])
          | some u=>
            obtain ⟨q1,q2,q3,q4⟩ :=Nx.find_some hf
            have hle:F+d≤F+L:=by omega
            have hle2:=Nat.mul_le_mul_right 1440 hle
            refine ⟨by omega,by omega,?_,fun t w1 w2=>?_⟩
            · show (dB (((F+d - 1)*1440+u) / 1440) && Nx.timB b0 b1 (((F+d - 1)*1440+u) % 1440))=true
              rw [show ((F+d - 1)*1440+u) / 1440=F+d - 1 by omega,show ((F+d - 1)*1440+u) % 1440=u by omega,hb',q3]; rfl
            · show (dB (t / 1440) && Nx.timB b0 b1 (t % 1440))=false
              rw [q4 (t % 1440) (by omega) (by omega),Bool.and_false]
      by_cases hz:z=true∧d=cd
      · exact key ct hct (by rw [hlo,if_pos ⟨hz.1,by omega⟩,hz.2]) (by rw [if_pos hz])
      · exact key 0 (by decide) (by rw [hlo,if_neg (by rintro ⟨q1,q2⟩; exact hz ⟨q1,by rcases Nat.lt_or_eq_of_le q2 with q | q; exact absurd ⟨q1,q⟩ c1; exact q⟩)]; omega) (by rw [if_neg hz])
/-! The months from one on, up or down. -/
theorem Nx.dayB_of (b2:Int)(s2:Bool)(b3 b4:Int)(s4:Bool){y m d:Int}(h:Civ.ok y m d):Nx.dayB b2 s2 b3 b4 s4 (Civ.num y m d)=(Dy.has b3 m && Dy.by_ b2 s2 b4 s4 d ((Civ.num y m d+4) % 7)):=by
  have hb:=Civ.num_bd h
  have e:=Civ.date_num h
  rw [Civ.date_is hb.1 hb.2] at e
  injection e with e1 e
  injection e with e2 e
  injection e with e3 e
  unfold Nx.dayB
  rw [e2,e3]
/-- A month of the calendar, by its mask. -/
theorem Nx.mon_of (b2 : Int) (s2 : Bool) (b3 b4 : Int) (s4 : Bool) {y m : Int} (h1 : 1970 ≤ y) (h2 : y ≤ 2999) (h3 : 1 ≤ m) (h4 : m ≤ 12) :
    ∃ F L N:Nat,Civ.day y m 1=((F:Int),0)∧Civ.len y m=(L:Int)∧Dy.mask false b2 s2 b3 b4 s4 y m=((N:Int),0)∧28≤L∧(F:Int)=Civ.num y m 1∧((F+L:Nat):Int)=Civ.num y (m+1) 1∧F+L≤376200∧
      Nx.Mon (fun D=>Nx.dayB b2 s2 b3 b4 s4 (D:Int)) F L N∧N < 2 ^ 32∧(N=0→∀ d:Nat,1≤d→d≤L→Nx.dayB b2 s2 b3 b4 s4 ((F+d - 1:Nat):Int)=false):=by
  obtain ⟨L,hL,hL31⟩ :=Dy.len_nat y m
  have hge:=Civ.len_ge (y:=y) h3 h4
  have hok:Civ.ok y m 1:=by unfold Civ.ok; omega
  have hbd:=Civ.num_bd hok
  have hokL:Civ.ok y m L:=by unfold Civ.ok; omega
  have hbdL:=Civ.num_bd hokL
  have hday:=Civ.day_ok hok
  obtain ⟨F,hF⟩:∃ F:Nat,Civ.num y m 1=F:=⟨(Civ.num y m 1).toNat,by omega⟩
  have hnum:∀ d:Int,Civ.num y m d=F+d - 1:=by
    intro d
    unfold Civ.num at hF ⊢
    omega
  obtain ⟨N,hN,hlt,-,hz⟩ :=mask_bits false b2 s2 b3 b4 s4 y m
  have he:(Dy.mask false b2 s2 b3 b4 s4 y m).2=0:=by
    unfold Dy.mask
    rw [if_neg (by decide),hday,if_neg (by simp)]
    split <;> rfl
  obtain ⟨-,-,hb⟩ :=hz he
  rw [hday] at hb
  have hbits:∀ d,1≤d→d≤31→N.testBit d=(decide (d≤L) && Nx.dayB b2 s2 b3 b4 s4 ((F+d - 1:Nat):Int)):=by
    intro d d1 d2
    rw [hb d,decide_eq_true d1,hL]
    by_cases hd:d≤L
    · have hokd:Civ.ok y m d:=by unfold Civ.ok; omega
      have e:=Nx.dayB_of b2 s2 b3 b4 s4 hokd
      have ec:((F+d - 1:Nat):Int)=Civ.num y m d:=by rw [hnum]; omega
      rw [ec,e,decide_eq_true hd,decide_eq_true (by omega:(d:Int)≤(L:Int))]
      unfold Dy.dayP
      dsimp only
      have e1:(((d - 1:Nat):Int)+1)=d:=by omega
      have e2:((Civ.num y m 1+4) % 7+((d - 1:Nat):Int)) % 7=(Civ.num y m d+4) % 7:=by rw [hnum d,hnum 1]; omega
      rw [e1,e2]
      simp
    · rw [decide_eq_false hd,decide_eq_false (by omega:¬ (d:Int)≤(L:Int))]
      simp
  refine ⟨F,L,N,by rw [hday,hF],hL,by rw [← hN,← he],by omega,hF.symm,?_,?_,⟨hbits,hL31⟩,hlt,?_⟩
  · have hc : Civ.cum y (m + 1 - 1).toNat = Civ.cum y (m - 1).toNat + L := by
      obtain ⟨k,hk⟩:∃ k:Nat,m=k+1:=⟨(m - 1).toNat,by omega⟩
      subst hk
      rw [show ((k:Int)+1+1 - 1).toNat=k+1 by omega,show ((k:Int)+1 - 1).toNat=k by omega,Civ.cum_len,← hL]
    unfold Civ.num at hF ⊢
    omega
  · rw [hnum] at hbdL
    omega
  · intro h0 d d1 d2
    have:=hbits d d1 (by omega)
    rw [h0,Nat.zero_testBit,decide_eq_true d2,Bool.true_and] at this
    exact this.symm
/-- The first one of the months from one on. -/
def Nx.scanUp (b0 b1:Int)(cd ct:Nat)(x:Nat × Int × Int):Option Nat:=Nx.dayScan b0 b1 x.2.2.toNat x.2.1.toNat (decide (x.1=0)) cd ct 31 1
theorem Nx.num13 (y:Int):Civ.num y 13 1=Civ.num (y+1) 1 1:=by
  unfold Civ.num
  have:=Civ.cum12 y
  rw [show ((13:Int) - 1).toNat=12 from rfl,show ((1:Int) - 1).toNat=0 from rfl,this]
  simp only [Civ.cum]
  omega
theorem Nx.ups_spec {b0 b1 b2 : Int} {s2 : Bool} {b3 b4 : Int} {s4 : Bool} (hS : ∀ t, t < 1440 → Nx.soonR b0 b1 t = Nx.find (Nx.timB b0 b1) (1440 - t) t) (cd ct s : Nat) (hct : ct < 1440) (hcd : 1 ≤ cd) :
    ∀ (f:Nat) (y m:Int) (n:Nat) (lo:Nat),1970≤y→y≤2999→1≤m→m≤13→(2999 - y)*12+(13 - m)+2≤f→(n=0→m≤12∧(cd:Int)≤Civ.len y m∧(s:Int)=(Civ.num y m 1+cd - 1)*1440+ct)→
      (lo:Int)=(if n=0 then (s:Int) else Civ.num y m 1*1440)→
      Nx.Res (fun t=>Nx.dayB b2 s2 b3 b4 s4 ((t / 1440:Nat):Int) && Nx.timB b0 b1 (t % 1440)) lo 541728000 ((Nx.mons (Dy.mask false b2 s2 b3 b4 s4) 1 f y m n).findSome? (Nx.scanUp b0 b1 cd ct))
  | 0,y,m,n,lo,_,_,_,_,hf,_,_=>by omega
  | f+1,y,m,n,lo,h1,h2,h3,h4,hf,hn0,hlo=>by
    by_cases hend:y=2999∧m=13
    · obtain ⟨rfl,rfl⟩ :=hend
      rw [Nx.mons_step _ 1 f 2999 13 n (by omega) 3000 1 rfl rfl]
      have he:(Dy.mask false b2 s2 b3 b4 s4 3000 1).2=1:=by
        unfold Dy.mask
        rw [if_neg (by decide),show Civ.day 3000 1 1=(0,1) from by decide,if_pos (by decide)]
      rw [if_neg (by rw [he]; rintro ⟨q,_⟩; exact absurd q (by decide)),Nx.mons_end _ _ _ _ _ _ (by omega)]
      have hn:n≠0:=fun e=>by have:=(hn0 e).1; omega
      rw [if_neg hn,show Civ.num 2999 13 1=376200 from by decide] at hlo
      intro t q1 q2
      exfalso
      omega
    · -- the month at hand
      obtain ⟨y',m',hy',hm',g1,g2,g3,g4,g5,g6⟩:∃ y' m':Int,(if m < 1∨12 < m then y+1 else y)=y'∧(if m < 1∨12 < m then (m+11) % 12+1 else m)=m'∧1970≤y'∧y'≤2999∧1≤m'∧m'≤12∧Civ.num y m 1=Civ.num y' m' 1∧((m≤12→y'=y∧m'=m)∧(2999 - y')*12+(13 - (m'+1))+2≤f):=by
        by_cases h13:m=13
        · subst h13
          exact ⟨y+1,1,by rw [if_pos (by omega)],by rw [if_pos (by omega)]; rfl,by omega,by omega,by omega,by omega,Nx.num13 y,fun h=>by omega,by omega⟩
        · exact ⟨y,m,by rw [if_neg (by omega)],by rw [if_neg (by omega)],h1,h2,h3,by omega,rfl,fun _=>⟨rfl,rfl⟩,by omega⟩
      obtain ⟨F,L,N,hday,hlen,hmask,hL28,hF,hFL,hFL2,hM,hlt,hzero⟩ :=Nx.mon_of b2 s2 b3 b4 s4 g1 g2 g3 g4
      rw [Nx.mons_step _ 1 f y m n ⟨h1,h2⟩ y' m' hy' hm',hmask,hday]
      dsimp only
      have hFLs:=Nx.ups_spec (b2:=b2) (s2:=s2) (b3:=b3) (b4:=b4) (s4:=s4) hS cd ct s hct hcd f y' (m'+1) (n+1) ((F+L)*1440) g1 g2 (by omega) (by omega) g6.2 (fun e=>by omega) (by rw [if_neg (by omega),← hFL]; omega)
      have hgap:(∀ d:Nat,1≤d→d≤L→Nx.dayB b2 s2 b3 b4 s4 ((F+d - 1:Nat):Int)=false)→∀ t,F*1440≤t→t < (F+L)*1440→(Nx.dayB b2 s2 b3 b4 s4 ((t / 1440:Nat):Int) && Nx.timB b0 b1 (t % 1440))=false:=by
        intro hz t q1 q2
        have e:t / 1440=F+(t / 1440 - F+1) - 1:=by omega
        rw [e,hz (t / 1440 - F+1) (by omega) (by omega)]
        rfl
      have hlo1:F*1440≤lo∧lo≤(F+L)*1440:=by
        by_cases hn:n=0
        · obtain ⟨q1,q2,q3⟩ :=hn0 hn
          obtain ⟨r1,r2⟩ :=g6.1 q1
          rw [if_pos hn] at hlo
          rw [g5,← hF] at q3
          rw [r1,r2] at hlen
          rw [hlen] at q2
          omega
        · rw [if_neg hn,g5,← hF] at hlo
          omega
      by_cases hN:N=0
      · rw [if_neg (by rintro ⟨_,q⟩; exact q (by rw [hN]; rfl))]
        exact Nx.Res.more (fun t q1 q2=>hgap (hzero hN) t (by omega) q2) hlo1.2 hFLs
      · rw [if_pos ⟨rfl,by omega⟩,List.findSome?_cons]
        have hsc:Nx.Res (fun t=>Nx.dayB b2 s2 b3 b4 s4 ((t / 1440:Nat):Int) && Nx.timB b0 b1 (t % 1440)) lo ((F+L)*1440) (Nx.scanUp b0 b1 cd ct (n,(F:Int),(N:Int))):=by
          unfold Nx.scanUp
          dsimp only
          rw [Int.toNat_natCast,Int.toNat_natCast]
          by_cases hn:n=0
          · obtain ⟨q1,q2,q3⟩ :=hn0 hn
            obtain ⟨r1,r2⟩ :=g6.1 q1
            rw [if_pos hn] at hlo
            rw [g5,← hF] at q3
            rw [r1,r2] at hlen
            rw [hlen] at q2
            exact Nx.dayScan_spec hM hS (decide (n=0)) cd ct hct hcd (by omega) 31 1 lo (by omega) (by omega) (by omega) (by rw [if_pos ⟨decide_eq_true hn,hcd⟩]; omega)
          · rw [if_neg hn,g5,← hF] at hlo
            rw [decide_eq_false hn]
            have h1L:(1:Nat)≤L:=by omega
            -- cd plays no part here
            have hcdx:∀ (c c':Nat) (fu d:Nat),Nx.dayScan b0 b1 N F false c ct fu d=Nx.dayScan b0 b1 N F false c' ct fu d:=by
              intro c c' fu
              induction fu with
              | zero=>intro d; rfl
              | succ fu ih=>intro d; unfold Nx.dayScan; simp only [Bool.false_eq_true,false_and,or_false,if_false]; rw [ih (d+1)]
            rw [hcdx cd 1]
            exact Nx.dayScan_spec hM hS false 1 ct hct (by decide) h1L 31 1 lo (by omega) (by omega) (by omega) (by rw [if_neg (by simp)]; omega)
        revert hsc
        cases Nx.scanUp b0 b1 cd ct (n,(F:Int),(N:Int)) with
        | some r=>exact fun hsc=>Nx.Res.some_more (by omega) hsc
        | none=>exact fun hsc=>Nx.Res.more (fun t q1 q2=>hsc t q1 q2) hlo1.2 hFLs
/-! What the next one, the last one ahead and the count tell of each other. -/
theorem Nx.next_cases (p : Nat → Bool) (m : Int) (h0 : -1 ≤ m) :
    (∃ r:Nat,Nx.next false p m=((r:Int),0)∧m < r∧r < 541728000∧p r=true∧∀ t:Nat,m < t→t < r→p t=false)∨(Nx.next false p m=(0,11)∧∀ t:Nat,m < t→t < 541728000→p t=false):=by
  unfold Nx.next
  rw [if_neg (by decide)]
  by_cases h1:541727999≤m
  · rw [if_pos h1]
    exact .inr ⟨rfl,fun t q1 q2=>by omega⟩
  · rw [if_neg h1]
    have hs:((max m (-1)+1).toNat:Int)=m+1:=by omega
    generalize (max m (-1)+1).toNat=s at hs ⊢
    cases hf:Nx.find p (541728000 - s) s with
    | some r=>
      obtain ⟨q1,q2,q3,q4⟩ :=Nx.find_some hf
      exact .inl ⟨r,rfl,by omega,by omega,q3,fun t t1 t2=>q4 t (by omega) t2⟩
    | none=>exact .inr ⟨rfl,fun t t1 t2=>Nx.find_none hf t (by omega) (by omega)⟩
def firstN (f:Nat→Bool):Nat→Nat→Option Nat
  | _,0=>none
  | v,d+1=>if f v then some v else firstN f (v+1) d
theorem first_ntz:∀ (d m n:Nat),n < 2 ^ (m+d)→firstN (fun i=>n.testBit i) m d=if n / 2 ^ m=0 then none else some (m+Fld.ntzN d (n / 2 ^ m))
  | 0,m,n,h=>by rw [if_pos (Nat.div_eq_of_lt (by simpa using h))]; rfl
  | d+1,m,n,h=>by
    have ih:=first_ntz d (m+1) n (by rw [show m+1+d=m+(d+1) by omega]; exact h)
    have hq:n / 2 ^ (m+1)=n / 2 ^ m / 2:=by rw [Nat.pow_succ,Nat.div_div_eq_div_mul]
    have ht:n.testBit m=decide (n / 2 ^ m % 2=1):=Nat.testBit_eq_decide_div_mod_eq
    unfold firstN
    rw [ht,ih,hq]
    generalize n / 2 ^ m=q
    by_cases h1:q % 2=1
    · rw [decide_eq_true h1,if_pos rfl,if_neg (by omega)]
      unfold Fld.ntzN
      rw [if_pos h1]
      rfl
    · rw [decide_eq_false h1,if_neg (by decide)]
      by_cases h2:q=0
      · rw [if_pos (by omega),if_pos h2]
      · rw [if_neg (by omega),if_neg h2]
        show _=some (m+Fld.ntzN (d+1) q)
        rw [Fld.ntzN,if_neg h1]
        congr 1
        omega
theorem ntz_shift:∀ (m f q:Nat),Fld.ntzN (m+f) (q*2 ^ m)=m+Fld.ntzN f q
  | 0,f,q=>by simp
  | m+1,f,q=>by
    rw [show m+1+f=(m+f)+1 by omega,Fld.ntzN]
    have h1:q*2 ^ (m+1)=2*(q*2 ^ m):=by rw [Nat.pow_succ,← Nat.mul_assoc,Nat.mul_comm]
    rw [h1,if_neg (by omega),Nat.mul_div_cancel_left _ (by decide),ntz_shift m f q]
    omega
/-! What next's inner functions answer. -/
theorem Nx.firstN_find (f:Nat→Bool):∀ (d v:Nat),firstN f v d=Nx.find f d v
  | 0,_=>rfl
  | d+1,v=>by
    unfold firstN Nx.find
    rw [Nx.firstN_find f d (v+1)]
theorem Nx.bit_nat (x:Nat):Nx.bit (x:Int)=fun i=>x.testBit i:=by
  funext i
  unfold Nx.bit Dy.bitAt
  rw [Int.toNat_natCast]
theorem Nx.first_f (b:Int)(s:Bool)(hb:InU b)(n:Nat):field_First.f b s (n:Int)=some (match Nx.fst b n with | some i=>((i:Int),true) | none=>(0,false)):=by
  unfold field_First.f
  have hm:mx (n:Int) 0=n:=by unfold mx; split <;> omega
  rw [hm]
  obtain ⟨x,rfl,hx⟩ :=nat_of b hb
  by_cases h:(n:Int) > 63
  · rw [if_pos h,Nx.fst,show 64 - n=0 by omega]; rfl
  · have hw:IntKind.u64.wrap (n:Int)=n:=by rw [u64w]; omega
    rw [if_neg h,hw,if_pos (by omega),shr_nat x n (by omega),shl_nat (x / 2 ^ n) n (by omega)]
    have hle:=Nat.div_mul_le_self x (2 ^ n)
    rw [Nat.mod_eq_of_lt (Nat.lt_of_le_of_lt hle hx)]
    have q:=first_ntz (64 - n) n x (by rw [show n+(64 - n)=64 by omega]; exact hx)
    unfold Nx.fst
    rw [Nx.bit_nat,← Nx.firstN_find,q]
    by_cases hz:x / 2 ^ n=0
    · rw [if_pos hz,if_pos (by rw [hz]; simp)]
    · have hp:0 < x / 2 ^ n*2 ^ n:=Nat.mul_pos (Nat.pos_of_ne_zero hz) (Nat.two_pow_pos n)
      rw [if_neg hz,if_neg (by omega)]
      unfold bits_TrailingZeros64.f
      rw [show (2:Nat) ^ 64=18446744073709551616 by decide] at hx
      rw [if_pos ⟨by omega,by omega⟩]
      simp only [Option.bind_some]
      unfold Fld.ntz
      rw [Int.toNat_natCast]
      have:=ntz_shift n (64 - n) (x / 2 ^ n)
      rw [show n+(64 - n)=64 by omega] at this
      rw [this]
theorem Nx.fst_lt {b:Int}{v r:Nat}(h:Nx.fst b v=some r):r < 64:=(Nx.fst_some h).2.1
theorem Nx.soon_f (b0 : Int) (s0 : Bool) (b1 : Int) (s1 : Bool) (b2 : Int) (s2 : Bool) (b3 : Int) (s3 : Bool) (b4 : Int) (s4 : Bool) (h0 : InU b0) (h1 : InU b1) (t : Nat) (ht : t < 1440) :
    next_soon.f b0 s0 b1 s1 b2 s2 b3 s3 b4 s4 (t:Int)=some (match Nx.soonR b0 b1 t with | some u=>((u:Int),true) | none=>(0,false)):=by
  unfold next_soon.f Nx.soonR
  have e1:Int.tmod (t:Int) 60=((t % 60:Nat):Int):=by rw [Int.tmod_eq_emod_of_nonneg (by omega)]; omega
  have e2:wrap64 (Int.tdiv (t:Int) 60)=((t / 60:Nat):Int):=by rw [Int.tdiv_eq_ediv_of_nonneg (by omega),Civ.w64 (by omega) (by omega)]; omega
  have e3:wrap64 (((t / 60:Nat):Int)+1)=((t / 60+1:Nat):Int):=by rw [Civ.w64 (by omega) (by omega)]; omega
  rw [e1,e2,e3,Nx.first_f b0 s0 h0,Nx.first_f b1 s1 h1,Dy.has_f b1 s1 _ h1,Nx.has_nat b1 (t / 60) (by omega),show field_First.f b0 s0 0=_ from Nx.first_f b0 s0 h0 0]
  have hour:∀ h:Nat,Nx.fst b1 (t / 60+1)=some h→wrap64 (wrap64 ((h:Int)*60)+(match Nx.fst b0 0 with | some i=>((i:Int),true) | none=>((0:Int),false)).1)=((h*60+(Nx.fst b0 0).getD 0:Nat):Int):=by
    intro h hh
    have:=Nx.fst_lt hh
    rw [Civ.w64 (x:=(h:Int)*60) (by omega) (by omega)]
    cases hf:Nx.fst b0 0 with
    | some i=>
      have:=Nx.fst_lt hf
      show wrap64 ((h:Int)*60+(i:Int))=((h*60+i:Nat):Int)
      rw [Civ.w64 (by omega) (by omega)]; omega
    | none=>
      show wrap64 ((h:Int)*60+0)=((h*60+0:Nat):Int)
      rw [Civ.w64 (by omega) (by omega)]; omega
  have rest : (if (match Nx.fst b1 (t / 60 + 1) with | some i => ((i : Int), true) | none => ((0 : Int), false)).2 = true then (some (match Nx.fst b0 0 with | some i => ((i : Int), true) | none => ((0 : Int), false))).bind fun u => some (wrap64 (wrap64 ((match Nx.fst b1 (t / 60 + 1) with | some i => ((i : Int), true) | none => ((0 : Int), false)).1 * 60) + u.1), true) else some (0, false)) =
      some (match (match Nx.fst b1 (t / 60+1) with | some h=>some (h*60+(Nx.fst b0 0).getD 0) | none=>(none:Option Nat)) with | some u=>((u:Int),true) | none=>(0,false)):=by
    cases hh:Nx.fst b1 (t / 60+1) with
    | none=>rfl
    | some h=>
      dsimp only
      rw [if_pos rfl,Option.bind_some,hour h hh]
  simp only [Option.bind_some]
  cases hH:Nx.bit b1 (t / 60) with
  | false=>
    have:(if (match Nx.fst b0 (t % 60) with | some i=>((i:Int),true) | none=>((0:Int),false)).2=true then some false else some false)=some false:=by split <;> rfl
    rw [this]
    simp only [Option.bind_some]
    first | exact rest | (rw [if_neg Bool.false_ne_true]; exact rest) | (rw [if_neg Bool.false_ne_true,if_neg Bool.false_ne_true]; exact rest)
  | true=>
    rw [if_pos rfl]
    cases hm:Nx.fst b0 (t % 60) with
    | none=>
      dsimp only
      rw [if_neg (by decide)]
      simp only [Option.bind_some]
      first | exact rest | (rw [if_neg Bool.false_ne_true]; exact rest) | (rw [if_neg Bool.false_ne_true,if_neg Bool.false_ne_true]; exact rest)
    | some m=>
      have hm64:=Nx.fst_lt hm
      dsimp only
      rw [if_pos rfl]
      simp only [Option.bind_some]
      rw [if_pos trivial]
      congr 2
      rw [Civ.w64 (x:=((t / 60:Nat):Int)*60) (by omega) (by omega),Civ.w64 (by omega) (by omega)]
      omega
/-! The program's months and days, against the plain ones. -/
theorem Nx.chk_bits (b : Int) (s : Bool) (kind : Int) (lo hi : Nat) (hk : (Lex.limits kind).2.2 = 0) (hlo : (Lex.limits kind).1 = lo) (hhi : top kind = hi) (h1 : lo ≤ hi) (h2 : hi ≤ 59) (hb : InU b) (h : field_Check.f b s kind = some 0) :
    (∀ i,Nx.bit b i=true→lo≤i∧i≤hi)∧∃ i,Nx.bit b i=true:=by
  rw [check_f b s kind lo hi hk hlo hhi h1 h2] at h
  by_cases hz:b=0
  · rw [if_pos hz] at h; exact absurd (Option.some.inj h) (by decide)
  rw [if_neg hz] at h
  by_cases ha:Go.bits .andNot .u64 b (evB lo hi)=0
  rotate_left
  · rw [if_neg ha] at h; exact absurd (Option.some.inj h) (by decide)
  have hev:=(andNot_zero b (evB lo hi) hb (ev_in lo hi (by omega))).1 ha
  have hall:∀ i,Nx.bit b i=true→lo≤i∧i≤hi:=by
    intro i hi'
    have hi64:i < 64:=by
      by_cases c:i < 64
      · exact c
      · have:=bit_big hb (show 64≤i by omega)
        rw [show bitAt b i=Nx.bit b i from rfl,hi'] at this; cases this
    have:=hev i hi64 hi'
    rw [bit_ev lo hi i (by omega)] at this
    simp only [Bool.and_eq_true,decide_eq_true_eq] at this
    exact this
  refine ⟨hall,?_⟩
  by_cases c:∃ i,Nx.bit b i=true
  · exact c
  · exfalso
    refine hz (eq_of_bits hb (show InU 0 from ⟨by decide,by decide⟩) (fun i _=>?_))
    rw [bit_zero]
    cases hi':bitAt b i with
    | false=>rfl
    | true=>exact absurd ⟨i,hi'⟩ c
structure Nx.Fit (b0 b1:Int):Prop where
  m60:∀ i,Nx.bit b0 i=true→i < 60
  mne:∃ i,Nx.bit b0 i=true
  h24:∀ i,Nx.bit b1 i=true→i < 24
theorem Nx.fit_of {b0:Int}{s0:Bool}{b1:Int}{s1:Bool}(h0:InU b0)(h1:InU b1)(q0:field_Check.f b0 s0 0=some 0)(q1:field_Check.f b1 s1 1=some 0):Nx.Fit b0 b1:=by
  obtain ⟨a1,a2⟩ :=Nx.chk_bits b0 s0 0 0 59 rfl rfl rfl (by decide) (by decide) h0 q0
  obtain ⟨c1,c2⟩ :=Nx.chk_bits b1 s1 1 0 23 rfl rfl rfl (by decide) (by decide) h1 q1
  exact ⟨fun i h=>by have:=a1 i h; omega,a2,fun i h=>by have:=c1 i h; omega⟩
theorem Nx.mbit (N d:Nat)(hN:N < 2 ^ 32)(h:d < 32):Go.bits .and .u32 ((N:Int) / 2 ^ d) 1=if N.testBit d=true then 1 else 0:=by
  have e:(N:Int) / 2 ^ d=shr .u32 (N:Int) (d:Int):=by
    unfold shr
    rw [show min ((d:Int).toNat) (IntKind.bits .u32)=d by simp [IntKind.bits]; omega]
  rw [e,bit32 N d hN h]
theorem Nx.dayW_scan {so : Int → Int × Bool} {b0 b1 : Int} (hS : ∀ t, t < 1440 → Nx.soonR b0 b1 t = Nx.find (Nx.timB b0 b1) (1440 - t) t) (hso : ∀ t : Nat, t < 1440 → so (t : Int) = match Nx.soonR b0 b1 t with | some u => ((u : Int), true) | none => (0, false))
    (k N F cd ct:Nat) (hN:N < 2 ^ 32) (hF:F≤376200) (hct:ct < 1440):∀ (f d:Nat),1≤d→d+f≤32→Nx.dayW so (cd:Int) (ct:Int) (k,(F:Int),(N:Int)) f (d:Int)=(Nx.dayScan b0 b1 N F (decide (k=0)) cd ct f d).map (fun r:Nat=>(r:Int))
  | 0,d,_,_=>rfl
  | f+1,d,h1,hd=>by
    have ih:=Nx.dayW_scan hS hso k N F cd ct hN hF hct f (d+1) (by omega) (by omega)
    unfold Nx.dayW Nx.dayScan
    dsimp only
    rw [Int.toNat_natCast,Nx.mbit N d hN (by omega),show (d:Int)+1=((d+1:Nat):Int) by omega,ih]
    have hc:((if N.testBit d=true then (1:Int) else 0)=0∨((k:Int)=0∧(d:Int) < cd))↔(N.testBit d=false∨(decide (k=0)=true∧d < cd)):=by
      constructor
      · rintro (h | ⟨h,h'⟩)
        · left
          cases hb:N.testBit d with
          | false=>rfl
          | true=>rw [hb,if_pos rfl] at h; exact absurd h (by decide)
        · exact .inr ⟨by simpa using h,by omega⟩
      · rintro (h | ⟨h,h'⟩)
        · left; rw [h]; rfl
        · exact .inr ⟨by simpa using h,by omega⟩
    by_cases c:N.testBit d=false∨(decide (k=0)=true∧d < cd)
    · rw [if_pos (hc.2 c),if_pos c]
    · rw [if_neg (fun h=>c (hc.1 h)),if_neg c]
      have ht:(if (k:Int)=0∧(d:Int)=cd then (ct:Int) else 0)=((if decide (k=0)=true∧d=cd then ct else 0:Nat):Int):=by
        by_cases q:k=0∧d=cd
        · rw [if_pos ⟨by omega,by omega⟩,if_pos ⟨by simpa using q.1,q.2⟩]
        · rw [if_neg (by omega),if_neg (by simpa using q)]; rfl
      rw [ht]
      have hlt:(if decide (k=0)=true∧d=cd then ct else 0) < 1440:=by split <;> omega
      generalize (if decide (k=0)=true∧d=cd then ct else 0)=t at hlt ⊢
      rw [hso t hlt]
      cases hr:Nx.soonR b0 b1 t with
      | none=>
        dsimp only
        rw [if_neg (by decide)]
      | some u=>
        dsimp only
        rw [if_pos rfl]
        have hu:u < 1440:=by
          rw [hS t hlt] at hr
          have:=(Nx.find_some hr).2.1
          omega
        show some _=some _
        congr 1
        rw [Civ.w64 (x:=(F:Int)+d) (by omega) (by omega),Civ.w64 (x:=(F:Int)+d - 1) (by omega) (by omega),Civ.w64 (x:=((F:Int)+d - 1)*1440) (by omega) (by omega),Civ.w64 (by omega) (by omega)]
        dsimp only
        omega
theorem Nx.findSome_map {α:Type}(g:α→Option Int)(h:α→Option Nat):∀ (l:List α),(∀ x ∈ l,g x=(h x).map (fun r:Nat=>(r:Int)))→l.findSome? g=(l.findSome? h).map (fun r:Nat=>(r:Int))
  | [],_=>rfl
  | x :: l,e=>by
    rw [List.findSome?_cons,List.findSome?_cons,e x (List.mem_cons_self ..)]
    cases h x with
    | some r=>rfl
    | none=>exact Nx.findSome_map g h l (fun y hy=>e y (List.mem_cons_of_mem _ hy))
theorem Nx.mons_mem (b2:Int)(s2:Bool)(b3 b4:Int)(s4:Bool)(by_:Int):∀ (f:Nat) (y m:Int) (n:Nat),∀ x ∈ Nx.mons (Dy.mask false b2 s2 b3 b4 s4) by_ f y m n,∃ F N:Nat,x=(x.1,(F:Int),(N:Int))∧F≤376199∧N < 2 ^ 32
  | 0,_,_,_,x,hx=>by cases hx
  | f+1,y,m,n,x,hx=>by
    by_cases hy:1970≤y∧y≤2999
    · rw [Nx.mons_step _ by_ f y m n hy _ _ rfl rfl] at hx
      generalize (if m < 1∨12 < m then y+by_ else y)=y' at hx
      generalize (if m < 1∨12 < m then (m+11) % 12+1 else m)=m' at hx
      split at hx
      · rcases List.mem_cons.1 hx with h | h
        · obtain ⟨N,hN,hlt,-,-⟩ :=mask_bits false b2 s2 b3 b4 s4 y' m'
          have hb:=Civ.day_bd y' m' 1
          refine ⟨(Civ.day y' m' 1).1.toNat,N,?_,by omega,hlt⟩
          rw [h,hN]
          dsimp only
          rw [Int.toNat_of_nonneg hb.1]
        · exact Nx.mons_mem b2 s2 b3 b4 s4 by_ f y' (m'+by_) (n+1) x h
      · exact Nx.mons_mem b2 s2 b3 b4 s4 by_ f y' (m'+by_) (n+1) x hx
    · rw [Nx.mons_end _ _ _ _ _ _ hy] at hx
      cases hx
/-- What a minute's calendar tells. -/
theorem Nx.of_is {s:Nat}(h:s < 541728000):∃ y m:Int,∃ cd:Nat,Civ.of (s:Int)=(y,m,(cd:Int),(s:Int) / 60 % 24,(s:Int) % 60,(((s:Int) / 1440)+4) % 7,0)∧1970≤y∧y≤2999∧1≤m∧m≤12∧1≤cd∧(cd:Int)≤Civ.len y m∧(s:Int)=(Civ.num y m 1+cd - 1)*1440+((s % 1440:Nat):Int)∧Civ.num y m cd=(s:Int) / 1440:=by
  obtain ⟨ok,hn⟩ :=Civ.date_ok (d:=(s:Int) / 1440) (by omega) (by omega)
  obtain ⟨q1,q2,q3,q4,q5,q6⟩ :=ok
  refine ⟨Civ.yr ((s:Int) / 1440),1+(Civ.mi ((s:Int) / 1440):Int),(Civ.dy ((s:Int) / 1440)).toNat,?_,q1,q2,q3,q4,by omega,by omega,?_,?_⟩
  · unfold Civ.of
    rw [if_neg (by omega),Int.toNat_of_nonneg (by omega)]
  · have e : Civ.num (Civ.yr ((s : Int) / 1440)) (1 + (Civ.mi ((s : Int) / 1440) : Int)) 1 + Civ.dy ((s : Int) / 1440) - 1 = (s : Int) / 1440 := by
      have hn':=hn
      unfold Civ.num at hn' ⊢
      rw [show ((1+(Civ.mi ((s:Int) / 1440):Int)) - 1).toNat=Civ.mi ((s:Int) / 1440) by omega] at hn' ⊢
      omega
    rw [Int.toNat_of_nonneg (by omega),e]
    omega
  · rw [Int.toNat_of_nonneg (by omega)]
    exact hn
abbrev Nx.at2 (b0 b1 b2:Int)(s2:Bool)(b3 b4:Int)(s4:Bool):Nat→Bool:=fun t=>Nx.dayB b2 s2 b3 b4 s4 ((t / 1440:Nat):Int) && Nx.timB b0 b1 (t % 1440)
theorem Nx.next_is {b0 : Int} {s0 : Bool} {b1 : Int} {s1 : Bool} {b2 : Int} {s2 : Bool} {b3 : Int} {s3 : Bool} {b4 : Int} {s4 : Bool} (h0 : InU b0) (h1 : InU b1) (h2 : InU b2) (h3 : InU b3) (h4 : InU b4) {ob : Bool} (A : day_odd.f b0 s0 b1 s1 b2 s2 b3 s3 b4 s4 = some ob) (m : Int) :
    next_Next.f b0 s0 b1 s1 b2 s2 b3 s3 b4 s4 m=some (Nx.next ob (Nx.at2 b0 b1 b2 s2 b3 b4 s4) m):=by
  unfold next_Next.f
  rw [if_pos (okS_of h0 h1 h2 h3 h4),show next_odd.f b0 s0 b1 s1 b2 s2 b3 s3 b4 s4=some ob from A]
  simp only [Option.bind_some]
  congr 1
  unfold Nx.next
  cases ob with
  | true=>rw [if_pos rfl,if_pos rfl]
  | false=>
    rw [if_neg Bool.false_ne_true,if_neg Bool.false_ne_true]
    by_cases hl:541727999≤m
    · rw [if_pos hl,if_pos hl]
    rw [if_neg hl,if_neg hl]
    obtain ⟨ob',A',hq⟩ :=odd_is b0 s0 b1 s1 b2 s2 b3 s3 b4 s4
    rw [A] at A'
    obtain ⟨q0,q1,-⟩ :=hq (Option.some.inj A').symm
    have hfit:=Nx.fit_of h0 h1 q0 q1
    have hS:∀ t,t < 1440→Nx.soonR b0 b1 t=Nx.find (Nx.timB b0 b1) (1440 - t) t:=fun t ht=>Nx.soon_is hfit.m60 hfit.mne hfit.h24 ht
    have hso:∀ t:Nat,t < 1440→(fun t=>(next_soon.f b0 s0 b1 s1 b2 s2 b3 s3 b4 s4 t).getD (0,false)) (t:Int)=match Nx.soonR b0 b1 t with | some u=>((u:Int),true) | none=>(0,false):=by
      intro t ht
      dsimp only
      rw [Nx.soon_f b0 s0 b1 s1 b2 s2 b3 s3 b4 s4 h0 h1 t ht]
      rfl
    generalize (fun t=>(next_soon.f b0 s0 b1 s1 b2 s2 b3 s3 b4 s4 t).getD (0,false))=so at hso ⊢
    obtain ⟨s,hs⟩:∃ s:Nat,(max m (-1)+1).toNat=s:=⟨_,rfl⟩
    have hs2:mx m (-1)+1=(s:Int):=by unfold mx; split <;> omega
    have hlt:s < 541728000:=by omega
    obtain ⟨y,mo,cd,hof,y1,y2,m1,m2,d1,d2,hse,-⟩ :=Nx.of_is hlt
    unfold Nx.nextS
    rw [hs,hs2,hof]
    dsimp only
    have hup:=Nx.ups_spec (b0:=b0) (b1:=b1) (b2:=b2) (s2:=s2) (b3:=b3) (b4:=b4) (s4:=s4) hS cd (s % 1440) s (by omega) d1 20000 y mo 0 s y1 y2 m1 (by omega) (by omega) (fun _=>⟨m2,d2,hse⟩) (by rw [if_pos rfl])
    rw [Nx.Res.find (by omega) hup,Nx.findSome_map _ (Nx.scanUp b0 b1 cd (s % 1440)) _ (fun x hx=>?_)]
    · cases (Nx.mons (Dy.mask false b2 s2 b3 b4 s4) 1 20000 y mo 0).findSome? (Nx.scanUp b0 b1 cd (s % 1440)) <;> rfl
    · obtain ⟨F,N,hx,hF,hN⟩ :=Nx.mons_mem b2 s2 b3 b4 s4 1 20000 y mo 0 x hx
      have:=Nx.dayW_scan hS hso x.1 N F cd (s % 1440) hN (by omega) (by omega) 31 1 (by omega) (by omega)
      rw [hx]
      unfold Nx.scanUp
      dsimp only
      rw [Int.toNat_natCast,Int.toNat_natCast,← this]
      rfl
/-! What rearm's functions answer, as plain numbers. -/
theorem Rea.spec_chk (b0 : Int) (s0 : Bool) (b1 : Int) (s1 : Bool) (b2 : Int) (s2 : Bool) (b3 : Int) (s3 : Bool) (b4 : Int) (s4 : Bool) :
    ∃ n e,spec_Check.f b0 s0 b1 s1 b2 s2 b3 s3 b4 s4=some (n,e)∧day_odd.f b0 s0 b1 s1 b2 s2 b3 s3 b4 s4=some (e != 0):=by
  obtain ⟨ob,A,-⟩ :=odd_is b0 s0 b1 s1 b2 s2 b3 s3 b4 s4
  unfold day_odd.f at A
  obtain ⟨⟨n,e⟩,h,hh⟩ :=Option.bind_eq_some_iff.1 A
  exact ⟨n,e,h,by unfold day_odd.f; rw [h]; rfl⟩
def Rea.Z (b0:Int)(s0:Bool)(b1:Int)(s1:Bool)(b2:Int)(s2:Bool)(b3:Int)(s3:Bool)(b4:Int)(s4:Bool):Prop:=b0=0∧s0=false∧b1=0∧s1=false∧b2=0∧s2=false∧b3=0∧s3=false∧b4=0∧s4=false
instance (b0:Int) (s0:Bool) (b1:Int) (s1:Bool) (b2:Int) (s2:Bool) (b3:Int) (s3:Bool) (b4:Int) (s4:Bool):Decidable (Rea.Z b0 s0 b1 s1 b2 s2 b3 s3 b4 s4):=by unfold Rea.Z; infer_instance
def Rea.chk (k p l:Int)(z:Prop)[Decidable z](e:Int):Int:=
  if k=0 then (if l=0∧p=0∧z then 0 else 1) else if k=1 then (if p=0 then 10 else if l < 0∨¬ z then 1 else 0) else if k=2 then (if l=0∧p=0 then (if e=0 then 0 else 2) else 1) else 7
theorem Rea.j0_is {k0 p l b0 : Int} {s0 : Bool} {b1 : Int} {s1 : Bool} {b2 : Int} {s2 : Bool} {b3 : Int} {s3 : Bool} {b4 : Int} {s4 : Bool} {n e : Int} (h : spec_Check.f b0 s0 b1 s1 b2 s2 b3 s3 b4 s4 = some (n, e)) (k : Nat) (x0 x1 x2 x3 : Int) (x4 : Bool) (x5 : Int) (x6 : Bool) (x7 : Int) (x8 : Bool) (x9 : Int) (x10 : Bool) (x11 : Int) (x12 : Bool) :
    rearm_Check.j0 (k+2) k0 p l b0 s0 b1 s1 b2 s2 b3 s3 b4 s4 x0 x1 x2 x3 x4 x5 x6 x7 x8 x9 x10 x11 x12 =
      some (if l < 0∨¬ (k0=x0∧p=x1∧l=x2∧b0=x3∧s0=x4∧b1=x5∧s1=x6∧b2=x7∧s2=x8∧b3=x9∧s3=x10∧b4=x11∧s4=x12) then 1 else if k0=2 then (if e=0 then 0 else 2) else 0):=by
  rw [rearm_Check.j0]
  by_cases hl:l < 0
  · rw [if_pos hl,rearm_Check.j1,if_pos rfl,if_pos (.inl hl)]
  · rw [if_neg hl,rearm_Check.j1]
    by_cases hz:k0=x0∧p=x1∧l=x2∧b0=x3∧s0=x4∧b1=x5∧s1=x6∧b2=x7∧s2=x8∧b3=x9∧s3=x10∧b4=x11∧s4=x12
    · rw [if_neg (show ¬ (l < 0∨¬ _) from fun q=>q.elim hl (fun q=>q hz))]
      obtain ⟨rfl,rfl,rfl,rfl,rfl,rfl,rfl,rfl,rfl,rfl,rfl,rfl,rfl⟩ :=hz
      rw [if_neg (by simp),h,Option.bind_some]
      repeat' split
      all_goals first | rfl | (exfalso; omega)
    · rw [if_pos (Or.inr hz),if_pos ?_]
      simp only [Bool.or_eq_true,Bool.not_eq_true',beq_eq_false_iff_ne]
      simp only [Decidable.not_and_iff_not_or_not] at hz
      rcases hz with q | q | q | q | q | q | q | q | q | q | q | q | q <;> simp [q]
theorem Rea.chk_is {k0 p l b0 : Int} {s0 : Bool} {b1 : Int} {s1 : Bool} {b2 : Int} {s2 : Bool} {b3 : Int} {s3 : Bool} {b4 : Int} {s4 : Bool} {n e : Int} (h : spec_Check.f b0 s0 b1 s1 b2 s2 b3 s3 b4 s4 = some (n, e)) (k : Nat) :
    rearm_Check.f (k+2) k0 p l b0 s0 b1 s1 b2 s2 b3 s3 b4 s4=some (Rea.chk k0 p l (Rea.Z b0 s0 b1 s1 b2 s2 b3 s3 b4 s4) e):=by
  unfold rearm_Check.f Rea.chk
  by_cases k00:k0=0
  · subst k00
    rw [if_pos rfl,if_pos rfl,Rea.j0_is h,if_neg (show ¬ (0:Int)=2 by decide)]
    congr 1
    unfold Rea.Z
    by_cases hz:l=0∧p=0∧b0=0∧s0=false∧b1=0∧s1=false∧b2=0∧s2=false∧b3=0∧s3=false∧b4=0∧s4=false
    · rw [if_pos hz,if_neg]
      obtain ⟨rfl,rfl,q⟩ :=hz
      rintro (q' | q')
      · omega
      · exact q' ⟨rfl,rfl,rfl,q⟩
    · rw [if_neg hz,if_pos]
      exact .inr (fun q=>hz ⟨q.2.2.1,q.2.1,q.2.2.2⟩)
  rw [if_neg k00,if_neg k00]
  by_cases k01:k0=1
  · subst k01
    rw [if_pos rfl,if_pos rfl]
    by_cases hp:p=0
    · rw [if_pos hp,if_pos hp]
    rw [if_neg hp,if_neg hp,Rea.j0_is h,if_neg (show ¬ (1:Int)=2 by decide)]
    congr 1
    unfold Rea.Z
    by_cases hz:b0=0∧s0=false∧b1=0∧s1=false∧b2=0∧s2=false∧b3=0∧s3=false∧b4=0∧s4=false
    · by_cases hl:l < 0
      · rw [if_pos (.inl hl),if_pos (.inl hl)]
      · rw [if_neg (fun q=>q.elim hl (fun q=>q ⟨rfl,rfl,rfl,hz⟩)),if_neg (fun q=>q.elim hl (fun q=>q hz))]
    · rw [if_pos (.inr (fun q=>hz q.2.2.2)),if_pos (.inr hz)]
  rw [if_neg k01,if_neg k01]
  by_cases k02:k0=2
  · subst k02
    rw [if_pos rfl,if_pos rfl,Rea.j0_is h,if_pos (show (2:Int)=2 from rfl)]
    congr 1
    by_cases hz:l=0∧p=0
    · obtain ⟨rfl,rfl⟩ :=hz
      rw [if_neg (fun q=>q.elim (by omega) (fun q=>q ⟨rfl,rfl,rfl,rfl,rfl,rfl,rfl,rfl,rfl,rfl,rfl,rfl,rfl⟩)),if_pos (show (0:Int)=0∧(0:Int)=0 from ⟨rfl,rfl⟩)]
    · rw [if_neg hz,if_pos (.inr (fun q=>hz ⟨q.2.2.1,q.2.1⟩))]
  · rw [if_neg k02,if_neg k02]
theorem Rea.u64n {x:Int}(h0:0≤x)(h1:x < 18446744073709551616):IntKind.u64.wrap x=x:=by rw [u64w]; omega
theorem Rea.minute_is (a:Nat)(ha:a < 18446744073709551616):rearm_Minute.f a=some (if 541727999 < a / 60 then (0,false) else (((a / 60:Nat):Int),true)):=by
  unfold rearm_Minute.f
  have e:Int.tdiv (a:Int) 60=((a / 60:Nat):Int):=by rw [Int.tdiv_eq_ediv_of_nonneg (by omega)]; omega
  rw [e,Rea.u64n (by omega) (by omega)]
  by_cases h:541727999 < a / 60
  · rw [if_pos h,if_pos (by omega)]
  · rw [if_neg h,if_neg (by omega),Civ.w64 (by omega) (by omega)]
/-- What a cron plan tells at a tick. -/
def Rea.mat (ob:Bool)(p:Nat→Bool)(a:Nat):Int × Int:=if 541727999 < a / 60 then (0,11) else ((Nx.next ob p ((a / 60:Nat):Int)).1*60,(Nx.next ob p ((a / 60:Nat):Int)).2)
theorem Rea.next_bd (ob:Bool)(p:Nat→Bool)(m:Nat):0≤(Nx.next ob p (m:Int)).1∧(Nx.next ob p (m:Int)).1 < 541728000:=by
  cases ob with
  | true=>unfold Nx.next; rw [if_pos rfl]; exact ⟨by decide,by decide⟩
  | false=>
    rcases Nx.next_cases p (m:Int) (by omega) with ⟨r,e,q1,q2,q3,q4⟩ | ⟨e,q4⟩
    · rw [e]; exact ⟨by dsimp only; omega,by dsimp only; omega⟩
    · rw [e]; exact ⟨by dsimp only; omega,by dsimp only; omega⟩
theorem Rea.mat_is {k0 p l b0 : Int} {s0 : Bool} {b1 : Int} {s1 : Bool} {b2 : Int} {s2 : Bool} {b3 : Int} {s3 : Bool} {b4 : Int} {s4 : Bool} (h0 : InU b0) (h1 : InU b1) (h2 : InU b2) (h3 : InU b3) (h4 : InU b4) {ob : Bool} (A : day_odd.f b0 s0 b1 s1 b2 s2 b3 s3 b4 s4 = some ob) (a : Nat) (ha : a < 18446744073709551616) (x : Int) :
    rearm_plan_matched.f k0 p l b0 s0 b1 s1 b2 s2 b3 s3 b4 s4 a x=some (Rea.mat ob (Nx.at2 b0 b1 b2 s2 b3 b4 s4) a):=by
  unfold rearm_plan_matched.f Rea.mat
  rw [Rea.minute_is a ha,Option.bind_some]
  by_cases h:541727999 < a / 60
  · rw [if_pos h,if_pos h]
    exact if_neg Bool.false_ne_true
  · rw [if_neg h,if_neg h]
    dsimp only
    rw [if_pos rfl,Nx.next_is h0 h1 h2 h3 h4 A,Option.bind_some]
    have hb:=Rea.next_bd ob (Nx.at2 b0 b1 b2 s2 b3 b4 s4) (a / 60)
    rw [Rea.u64n hb.1 (by omega),Rea.u64n (by omega) (by omega)]
end Go.Proofs.YtepflnfnkfkldaaDoor.PRea
