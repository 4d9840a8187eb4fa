/- What next tells, as plain numbers. No condition. -/
import Derived.Test.YtabhfcoljgcpeaaGreatDoorPNexx7
import Derived.Test.YtabhfcoljgcpeaaGreatDoorPNexx8
import Derived.Test.YtabhfcoljgcpeaaGreatDoorPNexx11
import Derived.Lib.BitFns
import Derived.Lib.ItoaNum
namespace Go.Proofs.YtabhfcoljgcpeaaGreatDoor.PNex
open Go.RowKit Go.Proofs.YtabhfcoljgcpeaaGreatDoorW.PrintWords Go.Proofs.YtabhfcoljgcpeaaGreatDoorW.PrintLast Go.Proofs.YtabhfcoljgcpeaaGreatDoorW.PrintMore
set_option linter.unusedVariables false
set_option linter.unusedSimpArgs false
/-! Bits of a whole number, and what field's functions tell of them. -/
theorem u64w (z:Int):IntKind.u64.wrap z=z % 18446744073709551616:=by simp [IntKind.wrap,IntKind.bits,IntKind.signed]
def InU (b:Int):Prop:=0≤b∧b < 18446744073709551616
/-- Bit i of a whole number. -/
def bitAt (b:Int)(i:Nat):Bool:=b.toNat.testBit i
theorem nat_of (b:Int)(h:InU b):∃ n:Nat,b=n∧n < 2 ^ 64:=by
  obtain ⟨n,rfl⟩ :=Int.eq_ofNat_of_zero_le h.1
  exact ⟨n,rfl,by have:=h.2; omega⟩
theorem bits_u64 (a b:Nat)(ha:a < 2 ^ 64)(hb:b < 2 ^ 64):Go.bits .and .u64 a b=((a &&& b:Nat):Int)∧Go.bits .or .u64 a b=((a ||| b:Nat):Int):=
  bits_nat .u64 64 (by decide) (fun z h0 h1=>IntWalk.u64_in z ⟨h0,by omega⟩) a b ha hb
theorem eq_of_bits {a b:Int}(ha:InU a)(hb:InU b)(h:∀ i,i < 64→bitAt a i=bitAt b i):a=b:=by
  obtain ⟨n,rfl,hn⟩ :=nat_of a ha
  obtain ⟨m,rfl,hm⟩ :=nat_of b hb
  have:n=m:=by
    apply Nat.eq_of_testBit_eq
    intro i
    by_cases hi:i < 64
    · exact h i hi
    · rw [Nat.testBit_lt_two_pow (Nat.lt_of_lt_of_le hn (Nat.pow_le_pow_right (by decide) (by omega))),Nat.testBit_lt_two_pow (Nat.lt_of_lt_of_le hm (Nat.pow_le_pow_right (by decide) (by omega)))]
  rw [this]
theorem bit_zero (i:Nat):bitAt 0 i=false:=by simp [bitAt]
theorem bit_big {b:Int}(h:InU b){i:Nat}(hi:64≤i):bitAt b i=false:=by
  obtain ⟨n,rfl,hn⟩ :=nat_of b h
  exact Nat.testBit_lt_two_pow (Nat.lt_of_lt_of_le hn (Nat.pow_le_pow_right (by decide) hi))
/-- All values from one to another one. -/
def evB (lo hi:Nat):Int:=((2 ^ (hi+1) - 2 ^ lo:Nat):Int)
theorem sub_testBit (lo:Nat):∀ (d i:Nat),(2 ^ (lo+d) - 2 ^ lo).testBit i=(decide (lo≤i) && decide (i < lo+d)):=by
  intro d i
  have e:2 ^ (lo+d) - 2 ^ lo=2 ^ lo*(2 ^ d - 1):=by rw [Nat.pow_add,Nat.mul_sub,Nat.mul_one]
  rw [e,Nat.testBit_two_pow_mul,Nat.testBit_two_pow_sub_one]
  by_cases h:lo≤i
  · simp [h]; omega
  · simp [h]
theorem bit_ev (lo hi i:Nat)(h:lo≤hi+1):bitAt (evB lo hi) i=(decide (lo≤i) && decide (i≤hi)):=by
  unfold bitAt evB
  rw [Int.toNat_natCast]
  obtain ⟨d,hd⟩:∃ d,hi+1=lo+d:=⟨hi+1 - lo,by omega⟩
  rw [hd,sub_testBit]
  congr 1
  simp; omega
theorem ev_in (lo hi:Nat)(h:hi≤62):InU (evB lo hi):=by
  unfold evB InU
  have:2 ^ (hi+1)≤2 ^ 63:=Nat.pow_le_pow_right (by decide) (by omega)
  rw [show (2:Nat) ^ 63=9223372036854775808 by decide] at this
  generalize (2:Nat) ^ (hi+1)=q at this ⊢
  generalize (2:Nat) ^ lo=r
  omega
theorem shl_one (n:Nat)(h:n < 64):shl .u64 1 (n:Int)=((2 ^ n:Nat):Int):=by
  have:=Nat.pow_lt_pow_right (a:=2) (by decide) h
  unfold shl
  rw [u64w,show min ((n:Int).toNat) (IntKind.bits .u64)=n by simp [IntKind.bits]; omega]
  simp only [Int.one_mul]
  rw [show (2:Int) ^ n=((2 ^ n:Nat):Int) by simp]
  rw [show (2:Nat) ^ 64=18446744073709551616 by decide] at this
  generalize (2:Nat) ^ n=q at this ⊢
  omega
theorem shr_nat (a n:Nat)(h:n < 64):shr .u64 (a:Int) (n:Int)=((a / 2 ^ n:Nat):Int):=by
  unfold shr
  rw [show min ((n:Int).toNat) (IntKind.bits .u64)=n by simp [IntKind.bits]; omega]
  rw [show (2:Int) ^ n=((2 ^ n:Nat):Int) by simp]
  simp
theorem shl_nat (a n:Nat)(h:n < 64):shl .u64 (a:Int) (n:Int)=((a*2 ^ n % 2 ^ 64:Nat):Int):=by
  unfold shl
  rw [u64w,show min ((n:Int).toNat) (IntKind.bits .u64)=n by simp [IntKind.bits]; omega]
  rw [show (2:Int) ^ n=((2 ^ n:Nat):Int) by simp]
  generalize 2 ^ n=q
  rw [show (2:Nat) ^ 64=18446744073709551616 by decide,Int.natCast_emod,Int.natCast_mul]
  rfl
theorem every_f (lo hi:Nat)(h:lo≤hi)(h2:hi≤62):field_every.f (lo:Int) (hi:Int)=some (evB lo hi):=by
  have hw1:wrap64 ((hi:Int)+1)=((hi+1:Nat):Int):=by unfold wrap64; omega
  have hw2:IntKind.u64.wrap ((hi+1:Nat):Int)=((hi+1:Nat):Int):=by rw [u64w]; omega
  have hw3:IntKind.u64.wrap (lo:Int)=(lo:Int):=by rw [u64w]; omega
  unfold field_every.f
  rw [hw1,hw2,hw3,if_pos (by omega),if_pos (by omega),shl_one _ (by omega),shl_one _ (by omega)]
  have h3:2 ^ lo≤2 ^ (hi+1):=Nat.pow_le_pow_right (by decide) (by omega)
  have h4:2 ^ (hi+1)≤2 ^ 63:=Nat.pow_le_pow_right (by decide) (by omega)
  congr 1
  unfold evB
  rw [u64w]
  rw [show (2:Nat) ^ 63=9223372036854775808 by decide] at h4
  generalize (2:Nat) ^ (hi+1)=q at h3 h4 ⊢
  generalize (2:Nat) ^ lo=r at h3 ⊢
  omega
theorem andNot_zero (a b:Int)(ha:InU a)(hb:InU b):(Go.bits .andNot .u64 a b=0)↔∀ i,i < 64→bitAt a i=true→bitAt b i=true:=by
  obtain ⟨n,rfl,hn⟩ :=nat_of a ha
  obtain ⟨m,rfl,hm⟩ :=nat_of b hb
  have e:Go.bits .andNot .u64 (n:Int) (m:Int)=((BitVec.ofNat 64 n &&& ~~~ BitVec.ofNat 64 m).toNat:Int):=by
    have:=(BitVec.ofNat 64 n &&& ~~~ BitVec.ofNat 64 m).isLt
    show IntKind.u64.wrap ((BitVec.ofInt 64 (n:Int) &&& ~~~ BitVec.ofInt 64 (m:Int)).toNat:Int)=_
    rw [BitVec.ofInt_natCast,BitVec.ofInt_natCast,u64w]
    omega
  rw [e]
  have hz:((BitVec.ofNat 64 n &&& ~~~ BitVec.ofNat 64 m).toNat:Int)=0↔(BitVec.ofNat 64 n &&& ~~~ BitVec.ofNat 64 m)=0#64:=by
    constructor
    · intro h; apply BitVec.eq_of_toNat_eq; simpa using h
    · intro h; rw [h]; rfl
  rw [hz]
  constructor
  · intro h i hi hb
    have:=congrArg (fun v=>v.getLsbD i) h
    simp only [BitVec.getLsbD_and,BitVec.getLsbD_not,BitVec.getLsbD_ofNat,hi,decide_true,Bool.true_and,BitVec.getLsbD_zero] at this
    unfold bitAt at hb ⊢
    rw [Int.toNat_natCast] at hb ⊢
    rw [hb] at this
    simpa using this
  · intro h
    apply BitVec.eq_of_getLsbD_eq
    intro i hi
    simp only [BitVec.getLsbD_and,BitVec.getLsbD_not,BitVec.getLsbD_ofNat,hi,decide_true,Bool.true_and,BitVec.getLsbD_zero]
    have:=h i hi
    unfold bitAt at this
    rw [Int.toNat_natCast,Int.toNat_natCast] at this
    cases h1:n.testBit i
    · simp
    · rw [this h1]; simp
def top (kind:Int):Int:=if kind=4 then 6 else (Lex.limits kind).2.1
theorem check_f (b : Int) (s : Bool) (kind : Int) (lo hi : Nat) (hk : (Lex.limits kind).2.2 = 0) (hlo : (Lex.limits kind).1 = lo) (hhi : top kind = hi) (h1 : lo ≤ hi) (h2 : hi ≤ 59) :
    field_Check.f b s kind=if b=0 then some 2 else if Go.bits .andNot .u64 b (evB lo hi)=0 then (if s=true then (if b=evB lo hi then some 0 else some 2) else some 0) else some 2:=by
  unfold field_Check.f
  rw [Fld.limits_f]
  simp only [Option.bind_some]
  rw [if_pos hk,hlo,show (if kind=4 then 6 else (Lex.limits kind).2.1)=(hi:Int) from hhi,every_f lo hi h1 (by omega)]
  rfl
theorem wf_in (a:Int)(h:(Lit.int .u64 a).wf=true):InU a:=by
  unfold InU
  simp [Lit.wf] at h
  obtain ⟨h1,h2⟩ :=h
  have h1':(0:Int)≤a:=h1
  have h2':a≤18446744073709551615:=h2
  omega
theorem chk_tot (b:Int)(s:Bool)(i:Nat)(hi:i < 5):∃ e,field_Check.f b s (i:Int)=some e:=by
  have key:∀ (kind:Int) (lo hi:Nat),(Lex.limits kind).2.2=0→(Lex.limits kind).1=lo→top kind=hi→lo≤hi→hi≤59→∃ e,field_Check.f b s kind=some e:=by
    intro kind lo hi hk hlo hhi h1 h2
    rw [check_f b s kind lo hi hk hlo hhi h1 h2]
    repeat' split
    all_goals exact ⟨_,rfl⟩
  rcases (by omega:i=0∨i=1∨i=2∨i=3∨i=4) with rfl | rfl | rfl | rfl | rfl
  · exact key 0 0 59 rfl rfl rfl (by decide) (by decide)
  · exact key 1 0 23 rfl rfl rfl (by decide) (by decide)
  · exact key 2 1 31 rfl rfl rfl (by decide) (by decide)
  · exact key 3 1 12 rfl rfl rfl (by decide) (by decide)
  · exact key 4 0 6 rfl rfl rfl (by decide) (by decide)
/-! What day's functions answer, as plain numbers. -/
theorem u32w (z:Int):IntKind.u32.wrap z=z % 4294967296:=by simp [IntKind.wrap,IntKind.bits,IntKind.signed]
theorem okS_of {b0 b1 b2 b3 b4:Int}(h0:InU b0)(h1:InU b1)(h2:InU b2)(h3:InU b3)(h4:InU b4):Dy.okS b0 b1 b2 b3 b4=true:=decide_eq_true ⟨h0,h1,h2,h3,h4⟩
theorem odd_is (b0 : Int) (s0 : Bool) (b1 : Int) (s1 : Bool) (b2 : Int) (s2 : Bool) (b3 : Int) (s3 : Bool) (b4 : Int) (s4 : Bool) :
    ∃ ob,day_odd.f b0 s0 b1 s1 b2 s2 b3 s3 b4 s4=some ob∧(ob=false→field_Check.f b0 s0 0=some 0∧field_Check.f b1 s1 1=some 0∧field_Check.f b2 s2 2=some 0∧field_Check.f b3 s3 3=some 0∧field_Check.f b4 s4 4=some 0):=by
  obtain ⟨e0,q0⟩:∃ e,field_Check.f b0 s0 0=some e:=chk_tot b0 s0 0 (by decide)
  obtain ⟨e1,q1⟩:∃ e,field_Check.f b1 s1 1=some e:=chk_tot b1 s1 1 (by decide)
  obtain ⟨e2,q2⟩:∃ e,field_Check.f b2 s2 2=some e:=chk_tot b2 s2 2 (by decide)
  obtain ⟨e3,q3⟩:∃ e,field_Check.f b3 s3 3=some e:=chk_tot b3 s3 3 (by decide)
  obtain ⟨e4,q4⟩:∃ e,field_Check.f b4 s4 4=some e:=chk_tot b4 s4 4 (by decide)
  unfold day_odd.f spec_Check.f
  rw [q0]
  simp only [Option.bind_some]
  by_cases c0:e0≠0
  · rw [if_pos c0]; exact ⟨_,rfl,fun h=>absurd (by simpa using h) c0⟩
  obtain rfl:e0=0:=by simpa using c0
  rw [if_neg c0,q1]
  simp only [Option.bind_some]
  by_cases c1:e1≠0
  · rw [if_pos c1]; exact ⟨_,rfl,fun h=>absurd (by simpa using h) c1⟩
  obtain rfl:e1=0:=by simpa using c1
  rw [if_neg c1,q2]
  simp only [Option.bind_some]
  by_cases c2:e2≠0
  · rw [if_pos c2]; exact ⟨_,rfl,fun h=>absurd (by simpa using h) c2⟩
  obtain rfl:e2=0:=by simpa using c2
  rw [if_neg c2,q3]
  simp only [Option.bind_some]
  by_cases c3:e3≠0
  · rw [if_pos c3]; exact ⟨_,rfl,fun h=>absurd (by simpa using h) c3⟩
  obtain rfl:e3=0:=by simpa using c3
  rw [if_neg c3,q4]
  simp only [Option.bind_some]
  by_cases c4:e4≠0
  · rw [if_pos c4]; exact ⟨_,rfl,fun h=>absurd (by simpa using h) c4⟩
  obtain rfl:e4=0:=by simpa using c4
  rw [if_neg c4]
  exact ⟨_,rfl,fun _=>by simp⟩
theorem mask_is {b0 : Int} {s0 : Bool} {b1 : Int} {s1 : Bool} {b2 : Int} {s2 : Bool} {b3 : Int} {s3 : Bool} {b4 : Int} {s4 : Bool} (h0 : InU b0) (h1 : InU b1) (h2 : InU b2) (h3 : InU b3) (h4 : InU b4) {ob : Bool}
    (A:day_odd.f b0 s0 b1 s1 b2 s2 b3 s3 b4 s4=some ob) (y m:Int):day_Mask.f b0 s0 b1 s1 b2 s2 b3 s3 b4 s4 y m=some (Dy.mask ob b2 s2 b3 b4 s4 y m):=by
  unfold day_Mask.f
  rw [if_pos (okS_of h0 h1 h2 h3 h4),A]
  rfl
/-- A mask, as a whole number and its bits. -/
theorem mask_bits (ob : Bool) (b2 : Int) (s2 : Bool) (b3 b4 : Int) (s4 : Bool) (y m : Int) : ∃ N : Nat, (Dy.mask ob b2 s2 b3 b4 s4 y m).1 = (N : Int) ∧ N < 2 ^ 32 ∧ ((Dy.mask ob b2 s2 b3 b4 s4 y m).2 ≠ 0 → N = 0) ∧
    ((Dy.mask ob b2 s2 b3 b4 s4 y m).2=0→ob=false∧(Civ.day y m 1).2=0∧∀ d,N.testBit d=(Dy.has b3 m && (decide (1≤d) && decide ((d:Int)≤Civ.len y m) && Dy.dayP b2 s2 b4 s4 (Civ.day y m 1).1 (d - 1)))):=by
  unfold Dy.mask
  cases ob with
  | true=>rw [if_pos rfl]; exact ⟨0,rfl,by decide,fun _=>rfl,fun h=>absurd h (by decide)⟩
  | false=>
    rw [if_neg (by decide)]
    by_cases he:(Civ.day y m 1).2=0
    · rw [if_neg (by simp [he])]
      have hb:=Civ.len_bd y m
      cases hx:Dy.has b3 m with
      | false=>rw [if_neg (by decide)]; exact ⟨0,rfl,by decide,fun _=>rfl,fun _=>⟨rfl,he,fun d=>by simp⟩⟩
      | true=>
        rw [if_pos rfl]
        refine ⟨Dy.maskN (Dy.dayP b2 s2 b4 s4 (Civ.day y m 1).1) (Civ.len y m).toNat,rfl,?_,fun h=>absurd rfl h,fun _=>⟨rfl,he,fun d=>?_⟩⟩
        · exact Nat.lt_of_lt_of_le (Dy.maskN_lt _ _) (Nat.pow_le_pow_right (by decide) (by omega))
        · rw [Dy.maskN_bit,Bool.true_and]
          congr 2
          rw [decide_eq_decide]
          omega
    · rw [if_pos he]; exact ⟨0,rfl,by decide,fun _=>rfl,fun h=>absurd h (by decide)⟩
theorem shr32 (N d:Nat)(h:d < 32):shr .u32 (N:Int) (d:Int)=((N / 2 ^ d:Nat):Int):=by
  unfold shr
  rw [show min ((d:Int).toNat) (IntKind.bits .u32)=d by simp [IntKind.bits]; omega]
  rw [show (2:Int) ^ d=((2 ^ d:Nat):Int) by simp]
  simp
theorem bit32 (N d:Nat)(hN:N < 2 ^ 32)(h:d < 32):Go.bits .and .u32 (shr .u32 (N:Int) (d:Int)) 1=if N.testBit d=true then 1 else 0:=by
  rw [shr32 N d h,show (1:Int)=((1:Nat):Int) from rfl,(Dy.bits_u32 _ 1 (by have:=Nat.div_le_self N (2 ^ d); omega) (by decide)).1]
  have e:(N / 2 ^ d) &&& 1=N / 2 ^ d % 2:=Nat.and_one_is_mod _
  rw [e,Nat.testBit_eq_decide_div_mod_eq]
  by_cases hb:N / 2 ^ d % 2=1
  · rw [decide_eq_true hb,if_pos rfl,hb]
  · rw [decide_eq_false hb,if_neg (by decide),show N / 2 ^ d % 2=0 by omega]; rfl
/-! How many bits: what bits.OnesCount64 reckons. -/
def popN:Nat→Nat→Nat
  | 0,_=>0
  | f+1,n=>n % 2+popN f (n / 2)
def val8:List Nat→Nat
  | []=>0
  | b :: l=>b+256*val8 l
def rep8 (c:Nat):Nat→Nat
  | 0=>0
  | k+1=>c+256*rep8 c k
theorem and_pow:∀ (k l h c m:Nat),l < 2 ^ k→c < 2 ^ k→(l+2 ^ k*h) &&& (c+2 ^ k*m)=(l &&& c)+2 ^ k*(h &&& m)
  | 0,l,h,c,m,hl,hc=>by
    have:l=0:=by simpa using hl
    have:c=0:=by simpa using hc
    subst l; subst c; simp
  | k+1,l,h,c,m,hl,hc=>by
    have e:2 ^ (k+1)=2*2 ^ k:=by rw [Nat.pow_succ]; omega
    have e1:l+2 ^ (k+1)*h=2*(l / 2+2 ^ k*h)+l % 2:=by rw [e,Nat.mul_assoc]; omega
    have e2:c+2 ^ (k+1)*m=2*(c / 2+2 ^ k*m)+c % 2:=by rw [e,Nat.mul_assoc]; omega
    have e3:(l &&& c)=2*((l / 2) &&& (c / 2))+((l % 2) &&& (c % 2)):=by
      rw [← Fld.and_split _ _ _ _ (by omega) (by omega)]
      congr 1 <;> omega
    rw [e1,e2,Fld.and_split _ _ _ _ (by omega) (by omega),and_pow k _ _ _ _ (by omega) (by omega),e3,e,Nat.mul_assoc]
    omega
theorem and_byte (l h c m:Nat)(hl:l < 256)(hc:c < 256):(l+256*h) &&& (c+256*m)=(l &&& c)+256*(h &&& m):=and_pow 8 l h c m hl hc
def f1 (b:Nat):Nat:=(b / 2 &&& 85)+(b &&& 85)
def f2 (b:Nat):Nat:=(b / 4 &&& 51)+(b &&& 51)
def f3 (b:Nat):Nat:=(b / 16+b) &&& 15
theorem d1:∀ b:Fin 256,∀ r:Fin 2,((b.val / 2+128*r.val) &&& 85)=(b.val / 2 &&& 85)∧b.val / 2+128*r.val < 256∧f1 b.val < 256:=by decide +kernel
theorem d2:∀ b:Fin 256,∀ r:Fin 4,((b.val / 4+64*r.val) &&& 51)=(b.val / 4 &&& 51)∧b.val / 4+64*r.val < 256∧f2 b.val < 256:=by decide +kernel
theorem d3:∀ b:Fin 103,∀ r:Fin 16,((b.val / 16+16*r.val+b.val) &&& 15)=f3 b.val∧(b.val < 69→b.val / 16+16*r.val+b.val < 256+256*2):=by decide +kernel
theorem stage1:∀ (l:List Nat),(∀ b ∈ l,b < 256)→(val8 l / 2 &&& rep8 85 l.length)+(val8 l &&& rep8 85 l.length)=val8 (l.map f1)
  | [],_=>rfl
  | b :: l,h=>by
    have hb:=h b (List.mem_cons_self ..)
    have ih:=stage1 l (fun x hx=>h x (List.mem_cons_of_mem _ hx))
    obtain ⟨q1,q2,q3⟩ :=d1 ⟨b,hb⟩ ⟨val8 l % 2,by omega⟩
    dsimp only at q1 q2 q3
    have e:val8 (b :: l) / 2=(b / 2+128*(val8 l % 2))+256*(val8 l / 2):=by simp only [val8]; omega
    rw [e]
    simp only [val8,rep8,List.length_cons,List.map_cons]
    rw [and_byte _ _ _ _ q2 (by decide),and_byte _ _ _ _ hb (by decide),q1,← ih]
    unfold f1
    omega
theorem stage2:∀ (l:List Nat),(∀ b ∈ l,b < 256)→(val8 l / 4 &&& rep8 51 l.length)+(val8 l &&& rep8 51 l.length)=val8 (l.map f2)
  | [],_=>rfl
  | b :: l,h=>by
    have hb:=h b (List.mem_cons_self ..)
    have ih:=stage2 l (fun x hx=>h x (List.mem_cons_of_mem _ hx))
    obtain ⟨q1,q2,q3⟩ :=d2 ⟨b,hb⟩ ⟨val8 l % 4,by omega⟩
    dsimp only at q1 q2 q3
    have e:val8 (b :: l) / 4=(b / 4+64*(val8 l % 4))+256*(val8 l / 4):=by simp only [val8]; omega
    rw [e]
    simp only [val8,rep8,List.length_cons,List.map_cons]
    rw [and_byte _ _ _ _ q2 (by decide),and_byte _ _ _ _ hb (by decide),q1,← ih]
    unfold f2
    omega
theorem d4:∀ b:Fin 69,b.val / 16≤4:=by decide +kernel
theorem stage3:∀ (l:List Nat),(∀ b ∈ l,b < 69∧b % 16≤4)→((val8 l / 16+val8 l) &&& rep8 15 l.length)=val8 (l.map f3)∧val8 l % 16≤4
  | [],_=>⟨rfl,by decide⟩
  | b :: l,h=>by
    obtain ⟨hb,hb4⟩ :=h b (List.mem_cons_self ..)
    obtain ⟨ih,i4⟩ :=stage3 l (fun x hx=>h x (List.mem_cons_of_mem _ hx))
    obtain ⟨q1,-⟩ :=d3 ⟨b,by omega⟩ ⟨val8 l % 16,by omega⟩
    dsimp only at q1
    have e:val8 (b :: l) / 16+val8 (b :: l)=(b / 16+16*(val8 l % 16)+b)+256*(val8 l / 16+val8 l):=by simp only [val8]; omega
    rw [e]
    simp only [val8,rep8,List.length_cons,List.map_cons]
    rw [and_byte _ _ _ _ (by omega) (by decide),q1,ih]
    exact ⟨rfl,by omega⟩
theorem d5:∀ b:Fin 256,f3 (f2 (f1 b.val))=popN 8 b.val∧f1 b.val < 256∧f2 (f1 b.val) < 69∧f2 (f1 b.val) % 16≤4∧popN 8 b.val≤8:=by decide +kernel
theorem popN_add:∀ (k f n:Nat),popN (k+f) n=popN k (n % 2 ^ k)+popN f (n / 2 ^ k)
  | 0,f,n=>by simp [popN,Nat.mod_one]
  | k+1,f,n=>by
    rw [show k+1+f=(k+f)+1 by omega]
    simp only [popN]
    rw [popN_add k f (n / 2)]
    have e:2 ^ (k+1)=2*2 ^ k:=by rw [Nat.pow_succ]; omega
    rw [e,Nat.mod_mul,Nat.div_div_eq_div_mul]
    have e1:(n % 2+2*(n / 2 % 2 ^ k)) % 2=n % 2:=by omega
    have e2:(n % 2+2*(n / 2 % 2 ^ k)) / 2=n / 2 % 2 ^ k:=by omega
    rw [e1,e2,Nat.add_assoc]
def bytes8:Nat→Nat→List Nat
  | 0,_=>[]
  | k+1,n=>n % 256 :: bytes8 k (n / 256)
theorem bytes8_lt:∀ (k n:Nat),∀ b ∈ bytes8 k n,b < 256
  | 0,_,b,h=>by cases h
  | k+1,n,b,h=>by
    rcases List.mem_cons.1 h with rfl | h
    · exact Nat.mod_lt _ (by decide)
    · exact bytes8_lt k _ b h
theorem bytes8_len:∀ (k n:Nat),(bytes8 k n).length=k
  | 0,_=>rfl
  | k+1,n=>by simp only [bytes8,List.length_cons,bytes8_len k]
theorem bytes8_val:∀ (k n:Nat),n < 256 ^ k→val8 (bytes8 k n)=n
  | 0, n, h => by have : n = 0 := by simpa using h
                  subst this; rfl
  | k+1,n,h=>by
    simp only [bytes8,val8]
    rw [bytes8_val k (n / 256) (by rw [Nat.pow_succ] at h; exact Nat.div_lt_of_lt_mul (by rw [Nat.mul_comm]; exact h))]
    omega
theorem pop_bytes:∀ (k n:Nat),popN (8*k) n=((bytes8 k n).map (popN 8)).sum
  | 0,n=>rfl
  | k+1,n=>by
    rw [show 8*(k+1)=8+8*k by omega,popN_add]
    simp only [bytes8,List.map_cons,List.sum_cons]
    rw [pop_bytes k]
theorem u64_add (a b:Nat)(h:a+b < 18446744073709551616):IntKind.u64.wrap ((a:Int)+(b:Int))=((a+b:Nat):Int):=by rw [u64w]; omega
theorem and_u64 (a m:Nat)(ha:a < 18446744073709551616)(hm:m < 18446744073709551616):Go.bits .and .u64 (a:Int) (m:Int)=((a &&& m:Nat):Int):=(bits_u64 a m ha hm).1
theorem val8_lt:∀ (l:List Nat),(∀ b ∈ l,b < 256)→val8 l < 256 ^ l.length
  | [],_=>by simp [val8]
  | b :: l,h=>by
    have:=val8_lt l (fun x hx=>h x (List.mem_cons_of_mem _ hx))
    have hb:=h b (List.mem_cons_self ..)
    simp only [val8,List.length_cons]
    rw [Nat.pow_succ]
    generalize 256 ^ l.length=q at this ⊢
    omega
theorem small8 (y0 y1 y2 y3 y4 y5 y6 y7 V : Nat) (h0 : y0 < 69) (h1 : y1 < 69) (h2 : y2 < 69) (h3 : y3 < 69) (h4 : y4 < 69) (h5 : y5 < 69) (h6 : y6 < 69) (h7 : y7 < 69)
    (hV:y0+256*(y1+256*(y2+256*(y3+256*(y4+256*(y5+256*(y6+256*(y7+256*0)))))))=V):V / 16+V < 18446744073709551616:=by omega
theorem small_list:∀ (M:List Nat),M.length=8→(∀ b ∈ M,b < 69)→val8 M / 16+val8 M < 18446744073709551616
  | [y0,y1,y2,y3,y4,y5,y6,y7],_,h=>small8 y0 y1 y2 y3 y4 y5 y6 y7 _ (h y0 (by simp)) (h y1 (by simp)) (h y2 (by simp)) (h y3 (by simp)) (h y4 (by simp)) (h y5 (by simp)) (h y6 (by simp)) (h y7 (by simp)) rfl
theorem st1 (e0 e1 e2 R0 R1 R2 V3 : Nat) (h0 : e0 ≤ 8) (h1 : e1 ≤ 8) (h2 : e2 ≤ 8) (q1 : e2 + 256 * R2 = R1) (q0 : e1 + 256 * R1 = R0) (qV : e0 + 256 * R0 = V3) :
    V3 / 256=R0∧V3+R0=((e0+e1)+256*(e1+e2))+65536*(R1+R2):=by omega
theorem st2 (A B C T S12 S34 W : Nat) (hA : A ≤ 4112) (hB : B ≤ 4112) (hC : C ≤ 4112) (q1 : S12 = B + 65536 * S34) (q2 : S34 = C + 65536 * T) (qW : W = A + 65536 * S12) :
    W / 65536=S12∧(W+S12) / 4294967296=S34+T∧W+S12+(S34+T)=A+B+C+T+65536*(B+C+T)+4294967296*(S34+T):=by omega
theorem and127 (W:Nat)(h:W≤800000000000000000):Go.bits .and .i64 (W:Int) 127=(W:Int) % 128:=by
  have h1:((W:Int)) < 2 ^ 63:=by rw [show (2:Int) ^ 63=9223372036854775808 by decide]; omega
  have:=bits_mask .i64 63 (by decide) (fun z h0 h1=>IntWalk.i64_in z ⟨by omega,by rw [show (2:Int) ^ 63=9223372036854775808 by decide] at h1; omega⟩) 7 (by decide) (W:Int) (by omega) h1
  rw [show (2:Int) ^ 7 - 1=127 by decide,show (2:Int) ^ 7=128 by decide] at this
  exact this
theorem tail8 (e0 e1 e2 e3 e4 e5 e6 e7 V3 : Nat) (h0 : e0 ≤ 8) (h1 : e1 ≤ 8) (h2 : e2 ≤ 8) (h3 : e3 ≤ 8) (h4 : e4 ≤ 8) (h5 : e5 ≤ 8) (h6 : e6 ≤ 8) (h7 : e7 ≤ 8)
    (hV:e0+256*(e1+256*(e2+256*(e3+256*(e4+256*(e5+256*(e6+256*(e7+256*0)))))))=V3) :
    some (Go.bits .and .i64 (wrap64 (IntKind.u64.wrap ((IntKind.u64.wrap ((IntKind.u64.wrap ((V3:Int)+(V3:Int) / 256))+(IntKind.u64.wrap ((V3:Int)+(V3:Int) / 256)) / 65536))+(IntKind.u64.wrap ((IntKind.u64.wrap ((V3:Int)+(V3:Int) / 256))+(IntKind.u64.wrap ((V3:Int)+(V3:Int) / 256)) / 65536)) / 4294967296))) 127)
      = some ((e0+(e1+(e2+(e3+(e4+(e5+(e6+(e7+0))))))):Nat):Int):=by
    obtain ⟨R5,q5⟩:∃ R,e6+256*e7=R:=⟨_,rfl⟩
    obtain ⟨R4,q4⟩:∃ R,e5+256*R5=R:=⟨_,rfl⟩
    obtain ⟨R3,q3⟩:∃ R,e4+256*R4=R:=⟨_,rfl⟩
    obtain ⟨R2,q2⟩:∃ R,e3+256*R3=R:=⟨_,rfl⟩
    obtain ⟨R1,q1⟩:∃ R,e2+256*R2=R:=⟨_,rfl⟩
    obtain ⟨R0,q0⟩:∃ R,e1+256*R1=R:=⟨_,rfl⟩
    have qV:e0+256*R0=V3:=by rw [← hV,← q0,← q1,← q2,← q3,← q4,← q5,Nat.mul_zero,Nat.add_zero]
    clear hV
    have b5:R5≤2056:=by clear q4 q3 q2 q1 q0 qV; omega
    have b4:R4≤526344:=by clear q5 q3 q2 q1 q0 qV; omega
    have b3:R3≤134744072:=by clear q5 q4 q2 q1 q0 qV; omega
    have b2:R2≤34494482440:=by clear q5 q4 q3 q1 q0 qV; omega
    have b1:R1≤8830587504648:=by clear q5 q4 q3 q2 q0 qV; omega
    have b0:R0≤2260630401189896:=by clear q5 q4 q3 q2 q1 qV; omega
    have bV:V3≤578721382704613384:=by clear q5 q4 q3 q2 q1 q0; omega
    obtain ⟨d1,c1⟩ :=st1 e0 e1 e2 R0 R1 R2 V3 h0 h1 h2 q1 q0 qV
    have s12:R1+R2=((e2+e3)+256*(e3+e4))+65536*(R3+R4):=by clear q5 q0 qV c1 d1 b0 b1 b2 b3 b4 b5 bV h0 h1 h2 h3 h4 h5 h6 h7; omega
    have s34:R3+R4=((e4+e5)+256*(e5+e6))+65536*(R5+e7):=by clear q2 q1 q0 qV c1 d1 b0 b1 b2 b3 b4 b5 bV h0 h1 h2 h3 h4 h5 h6 h7 s12; omega
    obtain ⟨W1,hW1⟩:∃ W,V3+R0=W:=⟨_,rfl⟩
    rw [hW1] at c1
    obtain ⟨d2,d3,c3⟩ :=st2 ((e0+e1)+256*(e1+e2)) ((e2+e3)+256*(e3+e4)) ((e4+e5)+256*(e5+e6)) (R5+e7) (R1+R2) (R3+R4) W1 (by clear q0 q1 q2 q3 q4 q5 qV c1; omega) (by clear q0 q1 q2 q3 q4 q5 qV c1; omega) (by clear q0 q1 q2 q3 q4 q5 qV c1; omega) s12 s34 c1
    have w1:IntKind.u64.wrap ((V3:Int)+(V3:Int) / 256)=(W1:Int):=by clear q0 q1 q2 q3 q4 q5 qV c1 s12 s34 d2 d3 c3; rw [u64w]; omega
    rw [w1]
    have bW:W1≤600000000000000000:=by clear q0 q1 q2 q3 q4 q5 qV c1 s12 s34 d2 d3 c3; omega
    have w2:IntKind.u64.wrap ((W1:Int)+(W1:Int) / 65536)=((W1+(R1+R2):Nat):Int):=by clear q0 q1 q2 q3 q4 q5 qV c1 s12 s34 d3 c3; rw [u64w]; omega
    rw [w2]
    obtain ⟨W2,hW2⟩:∃ W,W1+(R1+R2)=W:=⟨_,rfl⟩
    rw [hW2] at d3 c3 ⊢
    have bX:W2≤700000000000000000:=by clear q0 q1 q2 q3 q4 q5 qV c1 s12 s34 d2 d3 c3; omega
    have w3:IntKind.u64.wrap ((W2:Int)+(W2:Int) / 4294967296)=((W2+(R3+R4+(R5+e7)):Nat):Int):=by clear q0 q1 q2 q3 q4 q5 qV c1 s12 s34 d2 c3; rw [u64w]; omega
    rw [w3]
    obtain ⟨W3,hW3⟩:∃ W,W2+(R3+R4+(R5+e7))=W:=⟨_,rfl⟩
    rw [hW3] at c3 ⊢
    have bY:W3≤800000000000000000:=by clear q0 q1 q2 q3 q4 q5 qV c1 s12 s34 d2 d3 c3; omega
    have hm:W3 % 128=e0+(e1+(e2+(e3+(e4+(e5+(e6+(e7+0))))))):=by
      clear q0 q1 q2 q3 q4 qV c1 s12 s34 d2 d3 w1 w2 w3 hW1 hW2 hW3 bW bX bY b0 b1 b2 b3 b4 b5 bV
      rw [c3,← q5]
      omega
    have w4:wrap64 (W3:Int)=(W3:Int):=by clear q0 q1 q2 q3 q4 q5 qV c1 s12 s34 d2 d3 c3 hm; unfold wrap64; omega
    rw [w4]
    have w5:Go.bits .and .i64 (W3:Int) 127=(W3:Int) % 128:=and127 W3 bY
    rw [w5,← hm]
    rfl
theorem tail_list : ∀ (M : List Nat) (V3 : Nat), M.length = 8 → (∀ b ∈ M, b ≤ 8) → val8 M = V3 →
    some (Go.bits .and .i64 (wrap64 (IntKind.u64.wrap ((IntKind.u64.wrap ((IntKind.u64.wrap ((V3:Int)+(V3:Int) / 256))+(IntKind.u64.wrap ((V3:Int)+(V3:Int) / 256)) / 65536))+(IntKind.u64.wrap ((IntKind.u64.wrap ((V3:Int)+(V3:Int) / 256))+(IntKind.u64.wrap ((V3:Int)+(V3:Int) / 256)) / 65536)) / 4294967296))) 127)
      = some ((M.sum:Nat):Int)
  | [y0,y1,y2,y3,y4,y5,y6,y7],V3,_,h,hV=>tail8 y0 y1 y2 y3 y4 y5 y6 y7 V3 (h y0 (by simp)) (h y1 (by simp)) (h y2 (by simp)) (h y3 (by simp)) (h y4 (by simp)) (h y5 (by simp)) (h y6 (by simp)) (h y7 (by simp)) hV
set_option maxHeartbeats 2000000 in
theorem ones_f (n:Nat)(hn:n < 18446744073709551616):bits_OnesCount64.f (n:Int)=some (popN 64 n:Int):=by
  obtain ⟨L,hL⟩:∃ L,bytes8 8 n=L:=⟨_,rfl⟩
  have hb:∀ b ∈ L,b < 256:=by rw [← hL]; exact bytes8_lt 8 n
  have hl:L.length=8:=by rw [← hL]; exact bytes8_len 8 n
  have hv:val8 L=n:=by rw [← hL]; exact bytes8_val 8 n (by rw [show (256:Nat) ^ 8=18446744073709551616 by decide]; exact hn)
  have hp:popN 64 n=(L.map (popN 8)).sum:=by rw [← hL]; exact pop_bytes 8 n
  have s1:=stage1 L hb
  have b1:∀ b ∈ L.map f1,b < 256:=by
    intro b hm
    obtain ⟨x,hx,rfl⟩ :=List.mem_map.1 hm
    exact (d5 ⟨x,hb x hx⟩).2.1
  have s2:=stage2 (L.map f1) b1
  have b2:∀ b ∈ (L.map f1).map f2,b < 69∧b % 16≤4:=by
    intro b hm
    obtain ⟨y,hy,rfl⟩ :=List.mem_map.1 hm
    obtain ⟨x,hx,rfl⟩ :=List.mem_map.1 hy
    exact ⟨(d5 ⟨x,hb x hx⟩).2.2.1,(d5 ⟨x,hb x hx⟩).2.2.2.1⟩
  obtain ⟨s3,-⟩ :=stage3 ((L.map f1).map f2) b2
  have v1:=val8_lt (L.map f1) b1
  have v2:=val8_lt ((L.map f1).map f2) (fun b hm=>by have:=(b2 b hm).1; omega)
  simp only [List.length_map,hl] at s1 s2 s3 v1 v2
  rw [show (256:Nat) ^ 8=18446744073709551616 by decide] at v1 v2
  rw [hv,show rep8 85 8=6148914691236517205 by decide] at s1
  rw [show rep8 51 8=3689348814741910323 by decide] at s2
  rw [show rep8 15 8=1085102592571150095 by decide] at s3
  obtain ⟨V1,hV1⟩:∃ V,val8 (L.map f1)=V:=⟨_,rfl⟩
  obtain ⟨V2,hV2⟩:∃ V,val8 ((L.map f1).map f2)=V:=⟨_,rfl⟩
  obtain ⟨V3,hV3⟩:∃ V,val8 (((L.map f1).map f2).map f3)=V:=⟨_,rfl⟩
  rw [hV1] at s1 s2 v1
  rw [hV2] at s2 s3 v2
  rw [hV3] at s3
  have hm3:(((L.map f1).map f2).map f3)=L.map (popN 8):=by
    rw [List.map_map,List.map_map]
    exact List.map_congr_left (fun x hx=>(d5 ⟨x,hb x hx⟩).1)
  rw [hm3] at hV3
  have small:V2 / 16+V2 < 18446744073709551616:=by rw [← hV2]; exact small_list ((L.map f1).map f2) (by rw [List.length_map,List.length_map]; exact hl) (fun b hm=>(b2 b hm).1)
  have t1:IntKind.u64.wrap ((Go.bits .and .u64 ((n:Int) / 2) 6148914691236517205)+(Go.bits .and .u64 (n:Int) 6148914691236517205))=(V1:Int):=by
    have e1:=and_u64 (n / 2) 6148914691236517205 (by omega) (by decide)
    have e2:=and_u64 n 6148914691236517205 hn (by decide)
    rw [show (n:Int) / 2=((n / 2:Nat):Int) by omega]
    rw [show (6148914691236517205:Int)=((6148914691236517205:Nat):Int) from rfl,e1,e2,u64_add _ _ (by omega),s1]
  have t2:IntKind.u64.wrap ((Go.bits .and .u64 ((V1:Int) / 4) 3689348814741910323)+(Go.bits .and .u64 (V1:Int) 3689348814741910323))=(V2:Int):=by
    have e1:=and_u64 (V1 / 4) 3689348814741910323 (by omega) (by decide)
    have e2:=and_u64 V1 3689348814741910323 v1 (by decide)
    rw [show (V1:Int) / 4=((V1 / 4:Nat):Int) by omega]
    rw [show (3689348814741910323:Int)=((3689348814741910323:Nat):Int) from rfl,e1,e2,u64_add _ _ (by omega),s2]
  have t3:Go.bits .and .u64 (IntKind.u64.wrap (((V2:Int) / 16)+(V2:Int))) 1085102592571150095=(V3:Int):=by
    rw [show (V2:Int) / 16=((V2 / 16:Nat):Int) by omega,u64_add _ _ small,show (1085102592571150095:Int)=((1085102592571150095:Nat):Int) from rfl,and_u64 _ _ small (by decide),s3]
  unfold bits_OnesCount64.f
  rw [t1,t2,t3]
  rw [hp]
  clear s1 s2 s3 v1 v2 t1 t2 t3 b1 b2 small hV1 hV2 hm3 hp hv hL
  exact tail_list (L.map (popN 8)) V3 (by rw [List.length_map]; exact hl) (fun b hm=>by obtain ⟨x,hx,rfl⟩ :=List.mem_map.1 hm; exact (d5 ⟨x,hb x hx⟩).2.2.2.2) hV3
theorem count_f (b:Int)(s:Bool)(hb:InU b):field_Count.f b s=some (popN 64 b.toNat:Int):=by
  obtain ⟨n,rfl,hn⟩ :=nat_of b hb
  unfold field_Count.f
  rw [ones_f n (by rw [show (2:Nat) ^ 64=18446744073709551616 by decide] at hn; exact hn)]
  rfl
/-! The first and the last of a row of whole numbers that meet a test, and how many do. -/
def Nx.find (p:Nat→Bool):Nat→Nat→Option Nat
  | 0,_=>none
  | n+1,i=>if p i=true then some i else Nx.find p n (i+1)
def Nx.back (p:Nat→Bool):Nat→Option Nat
  | 0=>none
  | n+1=>if p n=true then some n else Nx.back p n
def Nx.cnt (p:Nat→Bool):Nat→Nat→Nat
  | 0,_=>0
  | n+1,i=>(p i).toNat+Nx.cnt p n (i+1)
theorem Nx.find_some {p:Nat→Bool}:∀ {n i r:Nat},Nx.find p n i=some r→i≤r∧r < i+n∧p r=true∧∀ j,i≤j→j < r→p j=false
  | 0,i,r,h=>by simp [Nx.find] at h
  | n+1,i,r,h=>by
    unfold Nx.find at h
    by_cases hp:p i=true
    · rw [if_pos hp] at h
      obtain rfl:=Option.some.inj h
      exact ⟨Nat.le_refl _,by omega,hp,fun j h1 h2=>by omega⟩
    · rw [if_neg hp] at h
      obtain ⟨h1,h2,h3,h4⟩ :=Nx.find_some h
      refine ⟨by omega,by omega,h3,fun j q1 q2=>?_⟩
      by_cases e:j=i
      · subst e; simpa using hp
      · exact h4 j (by omega) q2
theorem Nx.find_none {p:Nat→Bool}:∀ {n i:Nat},Nx.find p n i=none→∀ j,i≤j→j < i+n→p j=false
  | 0,i,h=>fun j h1 h2=>by omega
  | n+1,i,h=>by
    unfold Nx.find at h
    by_cases hp:p i=true
    · rw [if_pos hp] at h; cases h
    · rw [if_neg hp] at h
      intro j h1 h2
      by_cases e:j=i
      · subst e; simpa using hp
      · exact Nx.find_none h j (by omega) (by omega)
theorem Nx.find_is {p:Nat→Bool}:∀ {n i r:Nat},i≤r→r < i+n→p r=true→(∀ j,i≤j→j < r→p j=false)→Nx.find p n i=some r
  | 0,i,r,h1,h2,_,_=>by omega
  | n+1,i,r,h1,h2,h3,h4=>by
    unfold Nx.find
    by_cases e:i=r
    · subst e; rw [if_pos h3]
    · rw [if_neg (by rw [h4 i (Nat.le_refl _) (by omega)]; decide)]
      exact Nx.find_is (by omega) (by omega) h3 (fun j q1 q2=>h4 j (by omega) q2)
theorem Nx.find_no {p:Nat→Bool}:∀ {n i:Nat},(∀ j,i≤j→j < i+n→p j=false)→Nx.find p n i=none
  | 0,i,_=>rfl
  | n+1,i,h=>by
    unfold Nx.find
    rw [if_neg (by rw [h i (Nat.le_refl _) (by omega)]; decide)]
    exact Nx.find_no (fun j q1 q2=>h j (by omega) (by omega))
theorem Nx.back_some {p:Nat→Bool}:∀ {n r:Nat},Nx.back p n=some r→r < n∧p r=true∧∀ j,r < j→j < n→p j=false
  | 0,r,h=>by simp [Nx.back] at h
  | n+1,r,h=>by
    unfold Nx.back at h
    by_cases hp:p n=true
    · rw [if_pos hp] at h
      obtain rfl:=Option.some.inj h
      exact ⟨by omega,hp,fun j h1 h2=>by omega⟩
    · rw [if_neg hp] at h
      obtain ⟨h2,h3,h4⟩ :=Nx.back_some h
      refine ⟨by omega,h3,fun j q1 q2=>?_⟩
      by_cases e:j=n
      · subst e; simpa using hp
      · exact h4 j q1 (by omega)
theorem Nx.back_none {p:Nat→Bool}:∀ {n:Nat},Nx.back p n=none→∀ j,j < n→p j=false
  | 0,h=>fun j h2=>by omega
  | n+1,h=>by
    unfold Nx.back at h
    by_cases hp:p n=true
    · rw [if_pos hp] at h; cases h
    · rw [if_neg hp] at h
      intro j h2
      by_cases e:j=n
      · subst e; simpa using hp
      · exact Nx.back_none h j (by omega)
theorem Nx.back_is {p:Nat→Bool}:∀ {n r:Nat},r < n→p r=true→(∀ j,r < j→j < n→p j=false)→Nx.back p n=some r
  | 0,r,h2,_,_=>by omega
  | n+1,r,h2,h3,h4=>by
    unfold Nx.back
    by_cases e:n=r
    · subst e; rw [if_pos h3]
    · rw [if_neg (by rw [h4 n (by omega) (by omega)]; decide)]
      exact Nx.back_is (by omega) h3 (fun j q1 q2=>h4 j q1 (by omega))
theorem Nx.back_no {p:Nat→Bool}:∀ {n:Nat},(∀ j,j < n→p j=false)→Nx.back p n=none
  | 0,_=>rfl
  | n+1,h=>by
    unfold Nx.back
    rw [if_neg (by rw [h n (by omega)]; decide)]
    exact Nx.back_no (fun j q2=>h j (by omega))
theorem Nx.cnt_add (p:Nat→Bool):∀ (m n i:Nat),Nx.cnt p (m+n) i=Nx.cnt p m i+Nx.cnt p n (i+m)
  | 0,n,i=>by simp [Nx.cnt]
  | m+1,n,i=>by
    rw [show m+1+n=(m+n)+1 by omega]
    simp only [Nx.cnt]
    rw [Nx.cnt_add p m n (i+1),show i+1+m=i+(m+1) by omega,Nat.add_assoc]
theorem Nx.cnt_le (p:Nat→Bool):∀ (n i:Nat),Nx.cnt p n i≤n
  | 0,_=>Nat.le_refl _
  | n+1,i=>by
    have:=Nx.cnt_le p n (i+1)
    simp only [Nx.cnt]
    cases p i
    · show 0+_≤_; omega
    · show 1+_≤_; omega
theorem Nx.cnt_zero {p:Nat→Bool}:∀ {n i:Nat},Nx.cnt p n i=0↔∀ j,i≤j→j < i+n→p j=false
  | 0,i=>⟨fun _ j h1 h2=>by omega,fun _=>rfl⟩
  | n+1,i=>by
    simp only [Nx.cnt]
    constructor
    · intro h j h1 h2
      by_cases e:j=i
      · subst e
        cases hp:p j with
        | false=>rfl
        | true=>rw [hp] at h; exact absurd h (by show ¬ (1+_=0); omega)
      · exact Nx.cnt_zero.1 (show Nx.cnt p n (i+1)=0 by omega) j (by omega) (by omega)
    · intro h
      rw [h i (Nat.le_refl _) (by omega),Nx.cnt_zero.2 (fun j h1 h2=>h j (by omega) (by omega))]
      rfl
theorem Nx.cnt_congr {p q:Nat→Bool}:∀ {n i:Nat},(∀ j,i≤j→j < i+n→p j=q j)→Nx.cnt p n i=Nx.cnt q n i
  | 0,_,_=>rfl
  | n+1,i,h=>by
    simp only [Nx.cnt]
    rw [h i (Nat.le_refl _) (by omega),Nx.cnt_congr (fun j h1 h2=>h j (by omega) (by omega))]
/-- The next one, the last one ahead, and how many: of minutes. -/
def Nx.next (ob:Bool)(p:Nat→Bool)(m:Int):Int × Int:=
  if ob=true then (0,2) else if 541727999≤m then (0,11) else
  match Nx.find p (541728000 - (max m (-1)+1).toNat) (max m (-1)+1).toNat with
  | some r=>((r:Int),0)
  | none=>(0,11)
def Nx.prev (ob:Bool)(p:Nat→Bool)(m:Int):Int × Int:=
  if ob=true then (0,2) else if m≤0 then (0,11) else
  match Nx.back p (min m 541728000).toNat with
  | some r=>((r:Int),0)
  | none=>(0,11)
def Nx.count (ob:Bool)(p:Nat→Bool)(a b:Int):Int × Int:=
  if ob=true then (0,2) else if a < 0∨b < a∨541728000 < b then (0,1) else ((Nx.cnt p (b - a).toNat a.toNat:Nat),0)
/-! The times of a day that match. -/
def Nx.bit (b:Int)(i:Nat):Bool:=Dy.bitAt b i
def Nx.dayB (b2:Int)(s2:Bool)(b3 b4:Int)(s4:Bool)(D:Int):Bool:=Dy.has b3 (1+(Civ.mi D:Int)) && Dy.by_ b2 s2 b4 s4 (Civ.dy D) ((D+4) % 7)
def Nx.timB (b0 b1:Int)(u:Nat):Bool:=Nx.bit b1 (u / 60) && Nx.bit b0 (u % 60)
theorem Nx.has_nat (b:Int)(i:Nat)(h:i < 64):Dy.has b (i:Int)=Nx.bit b i:=by
  unfold Dy.has Nx.bit
  rw [decide_eq_true (by omega:(0:Int)≤i),decide_eq_true (by omega:(i:Int) < 64),Int.toNat_natCast]
  rfl
theorem Nx.at_split (b0 b1 b2:Int)(s2:Bool)(b3 b4:Int)(s4:Bool)(t:Nat):Dy.at_ b0 b1 b2 s2 b3 b4 s4 (t:Int)=(Nx.dayB b2 s2 b3 b4 s4 ((t / 1440:Nat):Int) && Nx.timB b0 b1 (t % 1440)):=by
  have e1:(t:Int) / 1440=((t / 1440:Nat):Int):=by omega
  have e2:(t:Int) / 60 % 24=((t % 1440 / 60:Nat):Int):=by omega
  have e3:(t:Int) % 60=((t % 1440 % 60:Nat):Int):=by omega
  unfold Dy.at_ Nx.dayB Nx.timB
  rw [e1,e2,e3,Nx.has_nat b1 _ (by omega),Nx.has_nat b0 _ (by omega),Bool.and_assoc]
/-- The first bit from one on, and the last one up to one. -/
def Nx.fst (b:Int)(v:Nat):Option Nat:=Nx.find (Nx.bit b) (64 - v) v
def Nx.soonR (b0 b1:Int)(t:Nat):Option Nat:=
  match (if Nx.bit b1 (t / 60)=true then Nx.fst b0 (t % 60) else none) with
  | some m=>some (t / 60*60+m)
  | none=>match Nx.fst b1 (t / 60+1) with
    | some h=>some (h*60+(Nx.fst b0 0).getD 0)
    | none=>none
theorem Nx.fst_some {b:Int}{v r:Nat}(h:Nx.fst b v=some r):v≤r∧r < 64∧Nx.bit b r=true∧∀ j,v≤j→j < r→Nx.bit b j=false:=by
  obtain ⟨h1,h2,h3,h4⟩ :=Nx.find_some h
  exact ⟨h1,by omega,h3,h4⟩
theorem Nx.fst_none {b:Int}{v:Nat}(h:Nx.fst b v=none):∀ j,v≤j→j < 64→Nx.bit b j=false:=fun j h1 h2=>Nx.find_none h j h1 (by omega)
theorem Nx.soon_is {b0 b1:Int}(h0:∀ i,Nx.bit b0 i=true→i < 60)(hne:∃ i,Nx.bit b0 i=true)(h1:∀ i,Nx.bit b1 i=true→i < 24){t:Nat}(ht:t < 1440):Nx.soonR b0 b1 t=Nx.find (Nx.timB b0 b1) (1440 - t) t:=by
  have hd:t=t / 60*60+t % 60:=by omega
  unfold Nx.soonR
  cases hA:(if Nx.bit b1 (t / 60)=true then Nx.fst b0 (t % 60) else none) with
  | some m=>
    have hH:Nx.bit b1 (t / 60)=true:=by
      cases hq:Nx.bit b1 (t / 60) with
      | true=>rfl
      | false=>rw [hq,if_neg (by decide)] at hA; cases hA
    rw [if_pos hH] at hA
    obtain ⟨q1,q2,q3,q4⟩ :=Nx.fst_some hA
    have q5:=h0 m q3
    symm
    refine Nx.find_is (by omega) (by omega) ?_ ?_
    · unfold Nx.timB
      rw [show (t / 60*60+m) / 60=t / 60 by omega,show (t / 60*60+m) % 60=m by omega,hH,q3]; rfl
    · intro j j1 j2
      unfold Nx.timB
      rw [q4 (j % 60) (by omega) (by omega),Bool.and_false]
  | none=>
    have hB:∀ j,t≤j→j < (t / 60+1)*60→Nx.timB b0 b1 j=false:=by
      intro j j1 j2
      unfold Nx.timB
      rw [show j / 60=t / 60 by omega]
      cases hq:Nx.bit b1 (t / 60) with
      | false=>rfl
      | true=>
        rw [hq,if_pos rfl] at hA
        rw [Nx.fst_none hA (j % 60) (by omega) (by omega)]; rfl
    dsimp only
    cases hC:Nx.fst b1 (t / 60+1) with
    | some h=>
      obtain ⟨q1,q2,q3,q4⟩ :=Nx.fst_some hC
      have q5:=h1 h q3
      cases hM:Nx.fst b0 0 with
      | none=>
        obtain ⟨i,hi⟩ :=hne
        have:=Nx.fst_none hM i (by omega) (by have:=h0 i hi; omega)
        rw [hi] at this; cases this
      | some m=>
        obtain ⟨_,r2,r3,r4⟩ :=Nx.fst_some hM
        have r5:=h0 m r3
        symm
        show Nx.find (Nx.timB b0 b1) (1440 - t) t=some (h*60+m)
        refine Nx.find_is (by omega) (by omega) ?_ ?_
        · unfold Nx.timB
          rw [show (h*60+m) / 60=h by omega,show (h*60+m) % 60=m by omega,q3,r3]; rfl
        · intro j j1 j2
          by_cases c1:j < (t / 60+1)*60
          · exact hB j j1 c1
          · unfold Nx.timB
            by_cases c2:j < h*60
            · rw [q4 (j / 60) (by omega) (by omega)]; rfl
            · rw [r4 (j % 60) (by omega) (by omega),Bool.and_false]
    | none=>
      symm
      refine Nx.find_no (fun j j1 j2=>?_)
      by_cases c1:j < (t / 60+1)*60
      · exact hB j j1 c1
      · unfold Nx.timB
        rw [Nx.fst_none hC (j / 60) (by omega) (by omega)]; rfl
/-- The last bit up to one. -/
def Nx.lst (b:Int)(n:Nat):Option Nat:=Nx.back (Nx.bit b) n
def Nx.lateR (b0 b1:Int)(t:Nat):Option Nat:=
  match (if Nx.bit b1 (t / 60)=true then Nx.lst b0 (t % 60+1) else none) with
  | some m=>some (t / 60*60+m)
  | none=>match Nx.lst b1 (t / 60) with
    | some h=>some (h*60+(Nx.lst b0 60).getD 0)
    | none=>none
theorem Nx.late_is {b0 b1:Int}(h0:∀ i,Nx.bit b0 i=true→i < 60)(hne:∃ i,Nx.bit b0 i=true){t:Nat}(ht:t < 1440):Nx.lateR b0 b1 t=Nx.back (Nx.timB b0 b1) (t+1):=by
  unfold Nx.lateR
  cases hA:(if Nx.bit b1 (t / 60)=true then Nx.lst b0 (t % 60+1) else none) with
  | some m=>
    have hH:Nx.bit b1 (t / 60)=true:=by
      cases hq:Nx.bit b1 (t / 60) with
      | true=>rfl
      | false=>rw [hq,if_neg (by decide)] at hA; cases hA
    rw [if_pos hH] at hA
    obtain ⟨q1,q3,q4⟩ :=Nx.back_some hA
    symm
    refine Nx.back_is (by omega) ?_ ?_
    · unfold Nx.timB
      rw [show (t / 60*60+m) / 60=t / 60 by omega,show (t / 60*60+m) % 60=m by omega,hH,q3]; rfl
    · intro j j1 j2
      unfold Nx.timB
      rw [q4 (j % 60) (by omega) (by omega),Bool.and_false]
  | none=>
    have hB:∀ j,t / 60*60≤j→j < t+1→Nx.timB b0 b1 j=false:=by
      intro j j1 j2
      unfold Nx.timB
      rw [show j / 60=t / 60 by omega]
      cases hq:Nx.bit b1 (t / 60) with
      | false=>rfl
      | true=>
        rw [hq,if_pos rfl] at hA
        rw [Nx.back_none hA (j % 60) (by omega)]; rfl
    dsimp only
    cases hC:Nx.lst b1 (t / 60) with
    | some h=>
      obtain ⟨q1,q3,q4⟩ :=Nx.back_some hC
      cases hM:Nx.lst b0 60 with
      | none=>
        obtain ⟨i,hi⟩ :=hne
        have:=Nx.back_none hM i (h0 i hi)
        rw [hi] at this; cases this
      | some m=>
        obtain ⟨r2,r3,r4⟩ :=Nx.back_some hM
        symm
        show Nx.back (Nx.timB b0 b1) (t+1)=some (h*60+m)
        refine Nx.back_is (by omega) ?_ ?_
        · unfold Nx.timB
          rw [show (h*60+m) / 60=h by omega,show (h*60+m) % 60=m by omega,q3,r3]; rfl
        · intro j j1 j2
          by_cases c1:t / 60*60≤j
          · exact hB j c1 j2
          · unfold Nx.timB
            by_cases c2:h < j / 60
            · rw [q4 (j / 60) c2 (by omega)]; rfl
            · rw [r4 (j % 60) (by omega) (by omega),Bool.and_false]
    | none=>
      symm
      refine Nx.back_no (fun j j2=>?_)
      by_cases c1:t / 60*60≤j
      · exact hB j c1 j2
      · unfold Nx.timB
        rw [Nx.back_none hC (j / 60) (by omega)]; rfl
/-! The months, their days that match, and the first minute of them that does. -/
/-- What is known of a month: its first day, how long it is, and which of its days match. -/
structure Nx.Mon (dB:Nat→Bool) (F L N:Nat):Prop where
  bits:∀ d,1≤d→d≤31→N.testBit d=(decide (d≤L) && dB (F+d - 1))
  len:L≤31
def Nx.dayScan (b0 b1:Int)(N F:Nat)(z:Bool)(cd ct:Nat):Nat→Nat→Option Nat
  | 0,_=>none
  | f+1,d=>
    if N.testBit d=false∨(z=true∧d < cd) then Nx.dayScan b0 b1 N F z cd ct f (d+1) else
    match Nx.soonR b0 b1 (if z=true∧d=cd then ct else 0) with
    | some u=>some ((F+d - 1)*1440+u)
    | none=>Nx.dayScan b0 b1 N F z cd ct f (d+1)
/-- r is the first one from lo on, ahead of hi, or there is none. -/
def Nx.Res (p:Nat→Bool)(lo hi:Nat):Option Nat→Prop
  | some r=>lo≤r∧r < hi∧p r=true∧∀ t,lo≤t→t < r→p t=false
  | none=>∀ t,lo≤t→t < hi→p t=false
theorem Nx.Res.find {p:Nat→Bool}{lo hi:Nat}(h:lo≤hi):∀ {o:Option Nat},Nx.Res p lo hi o→Nx.find p (hi - lo) lo=o
  | some r,⟨h1,h2,h3,h4⟩ =>Nx.find_is h1 (by omega) h3 h4
  | none,h1=>Nx.find_no (fun j q1 q2=>h1 j q1 (by omega))
theorem Nx.Res.more {p:Nat→Bool}{lo mid hi:Nat}(h:∀ t,lo≤t→t < mid→p t=false)(hm:lo≤mid):∀ {o:Option Nat},Nx.Res p mid hi o→Nx.Res p lo hi o
  | some r, ⟨h1, h2, h3, h4⟩ => ⟨by omega, h2, h3, fun t q1 q2 => by
      by_cases c:t < mid
      · exact h t q1 c
      · exact h4 t (by omega) q2⟩
  | none, h1 => fun t q1 q2 => by
      by_cases c:t < mid
      · exact h t q1 c
      · exact h1 t (by omega) q2
theorem Nx.Res.some_more {p:Nat→Bool}{lo hi hi' r:Nat}(hh:hi≤hi')(h:Nx.Res p lo hi (some r)):Nx.Res p lo hi' (some r):=⟨h.1,by have:=h.2.1; omega,h.2.2.1,h.2.2.2⟩
theorem Nx.dayScan_out {dB:Nat→Bool}{b0 b1:Int}{F L N:Nat}(hM:Nx.Mon dB F L N)(z:Bool)(cd ct:Nat):∀ (f d:Nat),d+f=32→L < d→Nx.dayScan b0 b1 N F z cd ct f d=none
  | 0,_,_,_=>rfl
  | f+1,d,h,hd=>by
    have hbit:=hM.bits d (by omega) (by omega)
    rw [decide_eq_false (by omega),Bool.false_and] at hbit
    unfold Nx.dayScan
    rw [if_pos (.inl hbit)]
    exact Nx.dayScan_out hM z cd ct f (d+1) (by omega) (by omega)
theorem Nx.dayScan_spec {dB : Nat → Bool} {b0 b1 : Int} {F L N : Nat} (hM : Nx.Mon dB F L N) (hS : ∀ t, t < 1440 → Nx.soonR b0 b1 t = Nx.find (Nx.timB b0 b1) (1440 - t) t) (z : Bool) (cd ct : Nat) (hct : ct < 1440) (hcd1 : 1 ≤ cd) (hcd2 : cd ≤ L) :
    ∀ (f d lo:Nat),d+f=32→1≤d→d≤L+1→lo=(if z=true∧d≤cd then (F+cd - 1)*1440+ct else (F+d - 1)*1440)→
      Nx.Res (fun t=>dB (t / 1440) && Nx.timB b0 b1 (t % 1440)) lo ((F+L)*1440) (Nx.dayScan b0 b1 N F z cd ct f d)
  | 0,d,lo,h,hd,hdl,hlo=>by
    have hL:=hM.len
    rw [if_neg (by omega)] at hlo
    intro t q1 q2
    exfalso
    rw [show d=L+1 by omega,show F+(L+1) - 1=F+L by omega] at hlo
    omega
  | f+1,d,lo,h,hd,hdl,hlo=>by
    have hL:=hM.len
    by_cases hout:d=L+1
    · rw [Nx.dayScan_out hM z cd ct (f+1) d h (by omega)]
      rw [if_neg (by omega)] at hlo
      intro t q1 q2
      exfalso
      rw [hout,show F+(L+1) - 1=F+L by omega] at hlo
      omega
    have hbit:=hM.bits d hd (by omega)
    rw [decide_eq_true (by omega),Bool.true_and] at hbit
    unfold Nx.dayScan
    by_cases c1:z=true∧d < cd
    · rw [if_pos (.inr c1)]
      exact Nx.dayScan_spec hM hS z cd ct hct hcd1 hcd2 f (d+1) lo (by omega) (by omega) (by omega) (by rw [hlo,if_pos ⟨c1.1,by omega⟩,if_pos ⟨c1.1,by omega⟩])
    · -- the day at hand, from t0 on
      have key : ∀ t0 : Nat, t0 < 1440 → lo = (F + d - 1) * 1440 + t0 → (if z = true ∧ d = cd then ct else 0) = t0 →
          Nx.Res (fun t=>dB (t / 1440) && Nx.timB b0 b1 (t % 1440)) lo ((F+L)*1440) (if N.testBit d=false∨(z=true∧d < cd) then Nx.dayScan b0 b1 N F z cd ct f (d+1) else
            match Nx.soonR b0 b1 (if z=true∧d=cd then ct else 0) with
            | some u=>some ((F+d - 1)*1440+u)
            | none=>Nx.dayScan b0 b1 N F z cd ct f (d+1)):=by
        intro t0 ht0 e0 et
        have hlo2:(F+(d+1) - 1)*1440=(if z=true∧d+1≤cd then (F+cd - 1)*1440+ct else (F+(d+1) - 1)*1440):=by
          rw [if_neg (by rintro ⟨q1,q2⟩; exact c1 ⟨q1,by omega⟩)]
        have ih:=Nx.dayScan_spec hM hS z cd ct hct hcd1 hcd2 f (d+1) _ (by omega) (by omega) (by omega) hlo2
        have next:(∀ u,t0≤u→u < 1440→(dB (F+d - 1) && Nx.timB b0 b1 u)=false)→Nx.Res (fun t=>dB (t / 1440) && Nx.timB b0 b1 (t % 1440)) lo ((F+L)*1440) (Nx.dayScan b0 b1 N F z cd ct f (d+1)):=by
          intro hno
          refine Nx.Res.more (mid:=(F+(d+1) - 1)*1440) (fun t q1 q2=>?_) (by omega) ih
          have e:t / 1440=F+d - 1:=by omega
          show (dB (t / 1440) && Nx.timB b0 b1 (t % 1440))=false
          rw [e]
          exact hno (t % 1440) (by omega) (by omega)
        rw [et]
        by_cases hb:N.testBit d=false
        · rw [if_pos (.inl hb)]
          exact next (fun u _ _=>by rw [← hbit,hb]; rfl)
        · rw [if_neg (by rintro (q | q); exact hb q; exact c1 q),hS t0 ht0]
          have hb':dB (F+d - 1)=true:=by rw [← hbit]; simpa using hb
          cases hf:Nx.find (Nx.timB b0 b1) (1440 - t0) t0 with
          | none=>exact next (fun u q1 q2=>by rw [Nx.find_none hf u q1 (by omega),Bool.and_false])
          | some u=>
            obtain ⟨q1,q2,q3,q4⟩ :=Nx.find_some hf
            have hle:F+d≤F+L:=by omega
            have hle2:=Nat.mul_le_mul_right 1440 hle
            refine ⟨by omega,by omega,?_,fun t w1 w2=>?_⟩
            · show (dB (((F+d - 1)*1440+u) / 1440) && Nx.timB b0 b1 (((F+d - 1)*1440+u) % 1440))=true
              rw [show ((F+d - 1)*1440+u) / 1440=F+d - 1 by omega,show ((F+d - 1)*1440+u) % 1440=u by omega,hb',q3]; rfl
            · show (dB (t / 1440) && Nx.timB b0 b1 (t % 1440))=false
              rw [q4 (t % 1440) (by omega) (by omega),Bool.and_false]
      by_cases hz:z=true∧d=cd
      · exact key ct hct (by rw [hlo,if_pos ⟨hz.1,by omega⟩,hz.2]) (by rw [if_pos hz])
      · exact key 0 (by decide) (by rw [hlo,if_neg (by rintro ⟨q1,q2⟩; exact hz ⟨q1,by rcases Nat.lt_or_eq_of_le q2 with q | q; exact absurd ⟨q1,q⟩ c1; exact q⟩)]; omega) (by rw [if_neg hz])
/-! The months from one on, up or down. -/
theorem Nx.dayB_of (b2:Int)(s2:Bool)(b3 b4:Int)(s4:Bool){y m d:Int}(h:Civ.ok y m d):Nx.dayB b2 s2 b3 b4 s4 (Civ.num y m d)=(Dy.has b3 m && Dy.by_ b2 s2 b4 s4 d ((Civ.num y m d+4) % 7)):=by
  have hb:=Civ.num_bd h
  have e:=Civ.date_num h
  rw [Civ.date_is hb.1 hb.2] at e
  injection e with e1 e
  injection e with e2 e
  injection e with e3 e
  unfold Nx.dayB
  rw [e2,e3]
/-- A month of the calendar, by its mask. -/
theorem Nx.mon_of (b2 : Int) (s2 : Bool) (b3 b4 : Int) (s4 : Bool) {y m : Int} (h1 : 1970 ≤ y) (h2 : y ≤ 2999) (h3 : 1 ≤ m) (h4 : m ≤ 12) :
    ∃ F L N:Nat,Civ.day y m 1=((F:Int),0)∧Civ.len y m=(L:Int)∧Dy.mask false b2 s2 b3 b4 s4 y m=((N:Int),0)∧28≤L∧(F:Int)=Civ.num y m 1∧((F+L:Nat):Int)=Civ.num y (m+1) 1∧F+L≤376200∧
      Nx.Mon (fun D=>Nx.dayB b2 s2 b3 b4 s4 (D:Int)) F L N∧N < 2 ^ 32∧(N=0→∀ d:Nat,1≤d→d≤L→Nx.dayB b2 s2 b3 b4 s4 ((F+d - 1:Nat):Int)=false):=by
  obtain ⟨L,hL,hL31⟩ :=Dy.len_nat y m
  have hge:=Civ.len_ge (y:=y) h3 h4
  have hok:Civ.ok y m 1:=by unfold Civ.ok; omega
  have hbd:=Civ.num_bd hok
  have hokL:Civ.ok y m L:=by unfold Civ.ok; omega
  have hbdL:=Civ.num_bd hokL
  have hday:=Civ.day_ok hok
  obtain ⟨F,hF⟩:∃ F:Nat,Civ.num y m 1=F:=⟨(Civ.num y m 1).toNat,by omega⟩
  have hnum:∀ d:Int,Civ.num y m d=F+d - 1:=by
    intro d
    unfold Civ.num at hF ⊢
    omega
  obtain ⟨N,hN,hlt,-,hz⟩ :=mask_bits false b2 s2 b3 b4 s4 y m
  have he:(Dy.mask false b2 s2 b3 b4 s4 y m).2=0:=by
    unfold Dy.mask
    rw [if_neg (by decide),hday,if_neg (by simp)]
    split <;> rfl
  obtain ⟨-,-,hb⟩ :=hz he
  rw [hday] at hb
  have hbits:∀ d,1≤d→d≤31→N.testBit d=(decide (d≤L) && Nx.dayB b2 s2 b3 b4 s4 ((F+d - 1:Nat):Int)):=by
    intro d d1 d2
    rw [hb d,decide_eq_true d1,hL]
    by_cases hd:d≤L
    · have hokd:Civ.ok y m d:=by unfold Civ.ok; omega
      have e:=Nx.dayB_of b2 s2 b3 b4 s4 hokd
      have ec:((F+d - 1:Nat):Int)=Civ.num y m d:=by rw [hnum]; omega
      rw [ec,e,decide_eq_true hd,decide_eq_true (by omega:(d:Int)≤(L:Int))]
      unfold Dy.dayP
      dsimp only
      have e1:(((d - 1:Nat):Int)+1)=d:=by omega
      have e2:((Civ.num y m 1+4) % 7+((d - 1:Nat):Int)) % 7=(Civ.num y m d+4) % 7:=by rw [hnum d,hnum 1]; omega
      rw [e1,e2]
      simp
    · rw [decide_eq_false hd,decide_eq_false (by omega:¬ (d:Int)≤(L:Int))]
      simp
  refine ⟨F,L,N,by rw [hday,hF],hL,by rw [← hN,← he],by omega,hF.symm,?_,?_,⟨hbits,hL31⟩,hlt,?_⟩
  · have hc : Civ.cum y (m + 1 - 1).toNat = Civ.cum y (m - 1).toNat + L := by
      obtain ⟨k,hk⟩:∃ k:Nat,m=k+1:=⟨(m - 1).toNat,by omega⟩
      subst hk
      rw [show ((k:Int)+1+1 - 1).toNat=k+1 by omega,show ((k:Int)+1 - 1).toNat=k by omega,Civ.cum_len,← hL]
    unfold Civ.num at hF ⊢
    omega
  · rw [hnum] at hbdL
    omega
  · intro h0 d d1 d2
    have:=hbits d d1 (by omega)
    rw [h0,Nat.zero_testBit,decide_eq_true d2,Bool.true_and] at this
    exact this.symm
/-- The first one of the months from one on. -/
def Nx.scanUp (b0 b1:Int)(cd ct:Nat)(x:Nat × Int × Int):Option Nat:=Nx.dayScan b0 b1 x.2.2.toNat x.2.1.toNat (decide (x.1=0)) cd ct 31 1
theorem Nx.num13 (y:Int):Civ.num y 13 1=Civ.num (y+1) 1 1:=by
  unfold Civ.num
  have:=Civ.cum12 y
  rw [show ((13:Int) - 1).toNat=12 from rfl,show ((1:Int) - 1).toNat=0 from rfl,this]
  simp only [Civ.cum]
  omega
theorem Nx.ups_spec {b0 b1 b2 : Int} {s2 : Bool} {b3 b4 : Int} {s4 : Bool} (hS : ∀ t, t < 1440 → Nx.soonR b0 b1 t = Nx.find (Nx.timB b0 b1) (1440 - t) t) (cd ct s : Nat) (hct : ct < 1440) (hcd : 1 ≤ cd) :
    ∀ (f:Nat) (y m:Int) (n:Nat) (lo:Nat),1970≤y→y≤2999→1≤m→m≤13→(2999 - y)*12+(13 - m)+2≤f→(n=0→m≤12∧(cd:Int)≤Civ.len y m∧(s:Int)=(Civ.num y m 1+cd - 1)*1440+ct)→
      (lo:Int)=(if n=0 then (s:Int) else Civ.num y m 1*1440)→
      Nx.Res (fun t=>Nx.dayB b2 s2 b3 b4 s4 ((t / 1440:Nat):Int) && Nx.timB b0 b1 (t % 1440)) lo 541728000 ((Nx.mons (Dy.mask false b2 s2 b3 b4 s4) 1 f y m n).findSome? (Nx.scanUp b0 b1 cd ct))
  | 0,y,m,n,lo,_,_,_,_,hf,_,_=>by omega
  | f+1,y,m,n,lo,h1,h2,h3,h4,hf,hn0,hlo=>by
    by_cases hend:y=2999∧m=13
    · obtain ⟨rfl,rfl⟩ :=hend
      rw [Nx.mons_step _ 1 f 2999 13 n (by omega) 3000 1 rfl rfl]
      have he:(Dy.mask false b2 s2 b3 b4 s4 3000 1).2=1:=by
        unfold Dy.mask
        rw [if_neg (by decide),show Civ.day 3000 1 1=(0,1) from by decide,if_pos (by decide)]
      rw [if_neg (by rw [he]; rintro ⟨q,_⟩; exact absurd q (by decide)),Nx.mons_end _ _ _ _ _ _ (by omega)]
      have hn:n≠0:=fun e=>by have:=(hn0 e).1; omega
      rw [if_neg hn,show Civ.num 2999 13 1=376200 from by decide] at hlo
      intro t q1 q2
      exfalso
      omega
    · -- the month at hand
      obtain ⟨y',m',hy',hm',g1,g2,g3,g4,g5,g6⟩:∃ y' m':Int,(if m < 1∨12 < m then y+1 else y)=y'∧(if m < 1∨12 < m then (m+11) % 12+1 else m)=m'∧1970≤y'∧y'≤2999∧1≤m'∧m'≤12∧Civ.num y m 1=Civ.num y' m' 1∧((m≤12→y'=y∧m'=m)∧(2999 - y')*12+(13 - (m'+1))+2≤f):=by
        by_cases h13:m=13
        · subst h13
          exact ⟨y+1,1,by rw [if_pos (by omega)],by rw [if_pos (by omega)]; rfl,by omega,by omega,by omega,by omega,Nx.num13 y,fun h=>by omega,by omega⟩
        · exact ⟨y,m,by rw [if_neg (by omega)],by rw [if_neg (by omega)],h1,h2,h3,by omega,rfl,fun _=>⟨rfl,rfl⟩,by omega⟩
      obtain ⟨F,L,N,hday,hlen,hmask,hL28,hF,hFL,hFL2,hM,hlt,hzero⟩ :=Nx.mon_of b2 s2 b3 b4 s4 g1 g2 g3 g4
      rw [Nx.mons_step _ 1 f y m n ⟨h1,h2⟩ y' m' hy' hm',hmask,hday]
      dsimp only
      have hFLs:=Nx.ups_spec (b2:=b2) (s2:=s2) (b3:=b3) (b4:=b4) (s4:=s4) hS cd ct s hct hcd f y' (m'+1) (n+1) ((F+L)*1440) g1 g2 (by omega) (by omega) g6.2 (fun e=>by omega) (by rw [if_neg (by omega),← hFL]; omega)
      have hgap:(∀ d:Nat,1≤d→d≤L→Nx.dayB b2 s2 b3 b4 s4 ((F+d - 1:Nat):Int)=false)→∀ t,F*1440≤t→t < (F+L)*1440→(Nx.dayB b2 s2 b3 b4 s4 ((t / 1440:Nat):Int) && Nx.timB b0 b1 (t % 1440))=false:=by
        intro hz t q1 q2
        have e:t / 1440=F+(t / 1440 - F+1) - 1:=by omega
        rw [e,hz (t / 1440 - F+1) (by omega) (by omega)]
        rfl
      have hlo1:F*1440≤lo∧lo≤(F+L)*1440:=by
        by_cases hn:n=0
        · obtain ⟨q1,q2,q3⟩ :=hn0 hn
          obtain ⟨r1,r2⟩ :=g6.1 q1
          rw [if_pos hn] at hlo
          rw [g5,← hF] at q3
          rw [r1,r2] at hlen
          rw [hlen] at q2
          omega
        · rw [if_neg hn,g5,← hF] at hlo
          omega
      by_cases hN:N=0
      · rw [if_neg (by rintro ⟨_,q⟩; exact q (by rw [hN]; rfl))]
        exact Nx.Res.more (fun t q1 q2=>hgap (hzero hN) t (by omega) q2) hlo1.2 hFLs
      · rw [if_pos ⟨rfl,by omega⟩,List.findSome?_cons]
        have hsc:Nx.Res (fun t=>Nx.dayB b2 s2 b3 b4 s4 ((t / 1440:Nat):Int) && Nx.timB b0 b1 (t % 1440)) lo ((F+L)*1440) (Nx.scanUp b0 b1 cd ct (n,(F:Int),(N:Int))):=by
          unfold Nx.scanUp
          dsimp only
          rw [Int.toNat_natCast,Int.toNat_natCast]
          by_cases hn:n=0
          · obtain ⟨q1,q2,q3⟩ :=hn0 hn
            obtain ⟨r1,r2⟩ :=g6.1 q1
            rw [if_pos hn] at hlo
            rw [g5,← hF] at q3
            rw [r1,r2] at hlen
            rw [hlen] at q2
            exact Nx.dayScan_spec hM hS (decide (n=0)) cd ct hct hcd (by omega) 31 1 lo (by omega) (by omega) (by omega) (by rw [if_pos ⟨decide_eq_true hn,hcd⟩]; omega)
          · rw [if_neg hn,g5,← hF] at hlo
            rw [decide_eq_false hn]
            have h1L:(1:Nat)≤L:=by omega
            -- cd plays no part here
            have hcdx:∀ (c c':Nat) (fu d:Nat),Nx.dayScan b0 b1 N F false c ct fu d=Nx.dayScan b0 b1 N F false c' ct fu d:=by
              intro c c' fu
              induction fu with
              | zero=>intro d; rfl
              | succ fu ih=>intro d; unfold Nx.dayScan; simp only [Bool.false_eq_true,false_and,or_false,if_false]; rw [ih (d+1)]
            rw [hcdx cd 1]
            exact Nx.dayScan_spec hM hS false 1 ct hct (by decide) h1L 31 1 lo (by omega) (by omega) (by omega) (by rw [if_neg (by simp)]; omega)
        revert hsc
        cases Nx.scanUp b0 b1 cd ct (n,(F:Int),(N:Int)) with
        | some r=>exact fun hsc=>Nx.Res.some_more (by omega) hsc
        | none=>exact fun hsc=>Nx.Res.more (fun t q1 q2=>hsc t q1 q2) hlo1.2 hFLs
/-! The same downwards: the last minute that matches. -/
def Nx.dayBack (b0 b1:Int)(N F:Nat)(z:Bool)(cd ct:Nat):Nat→Option Nat
  | 0=>none
  | d+1=>
    if N.testBit (d+1)=false∨(z=true∧cd < d+1) then Nx.dayBack b0 b1 N F z cd ct d else
    match Nx.lateR b0 b1 (if z=true∧d+1=cd then ct else 1439) with
    | some u=>some ((F+d)*1440+u)
    | none=>Nx.dayBack b0 b1 N F z cd ct d
def Nx.ResB (p:Nat→Bool)(lo hi:Nat):Option Nat→Prop
  | some r=>lo≤r∧r < hi∧p r=true∧∀ t,r < t→t < hi→p t=false
  | none=>∀ t,lo≤t→t < hi→p t=false
theorem Nx.ResB.back {p:Nat→Bool}{hi:Nat}:∀ {o:Option Nat},Nx.ResB p 0 hi o→Nx.back p hi=o
  | some r,⟨_,h2,h3,h4⟩ =>Nx.back_is h2 h3 h4
  | none,h1=>Nx.back_no (fun j q2=>h1 j (by omega) q2)
theorem Nx.ResB.less {p:Nat→Bool}{lo mid hi:Nat}(h:∀ t,mid≤t→t < hi→p t=false)(hm:mid≤hi):∀ {o:Option Nat},Nx.ResB p lo mid o→Nx.ResB p lo hi o
  | some r, ⟨h1, h2, h3, h4⟩ => ⟨h1, by omega, h3, fun t q1 q2 => by
      by_cases c:t < mid
      · exact h4 t q1 c
      · exact h t (by omega) q2⟩
  | none, h1 => fun t q1 q2 => by
      by_cases c:t < mid
      · exact h1 t q1 c
      · exact h t (by omega) q2
theorem Nx.ResB.some_less {p:Nat→Bool}{lo lo' hi r:Nat}(hh:lo'≤lo)(h:Nx.ResB p lo hi (some r)):Nx.ResB p lo' hi (some r):=⟨by have:=h.1; omega,h.2.1,h.2.2.1,h.2.2.2⟩
theorem Nx.dayBack_spec {dB : Nat → Bool} {b0 b1 : Int} {F L N : Nat} (hM : Nx.Mon dB F L N) (hS : ∀ t, t < 1440 → Nx.lateR b0 b1 t = Nx.back (Nx.timB b0 b1) (t + 1)) (z : Bool) (cd ct : Nat) (hct : ct < 1440) (hcd1 : 1 ≤ cd) (hcd2 : cd ≤ L) :
    ∀ (d hi:Nat),d≤31→hi=(if z=true∧cd≤d then (F+cd - 1)*1440+ct+1 else (F+min d L)*1440)→
      Nx.ResB (fun t=>dB (t / 1440) && Nx.timB b0 b1 (t % 1440)) (F*1440) hi (Nx.dayBack b0 b1 N F z cd ct d)
  | 0,hi,h,hhi=>by
    rw [if_neg (by omega),show min 0 L=0 by omega] at hhi
    intro t q1 q2
    exfalso
    omega
  | d+1,hi,h,hhi=>by
    have hL:=hM.len
    have hbit:=hM.bits (d+1) (by omega) h
    unfold Nx.dayBack
    by_cases c1:z=true∧cd < d+1
    · rw [if_pos (.inr c1)]
      exact Nx.dayBack_spec hM hS z cd ct hct hcd1 hcd2 d hi (by omega) (by rw [hhi,if_pos ⟨c1.1,by omega⟩,if_pos ⟨c1.1,by omega⟩])
    by_cases hout:L < d+1
    · rw [decide_eq_false (by omega),Bool.false_and] at hbit
      rw [if_pos (.inl hbit)]
      have hz:¬ (z=true∧cd≤d+1):=fun q=>c1 ⟨q.1,by omega⟩
      have hz2:¬ (z=true∧cd≤d):=fun q=>c1 ⟨q.1,by omega⟩
      exact Nx.dayBack_spec hM hS z cd ct hct hcd1 hcd2 d hi (by omega) (by rw [hhi,if_neg hz,if_neg hz2,show min (d+1) L=L by omega,show min d L=L by omega])
    rw [decide_eq_true (by omega),Bool.true_and,show F+(d+1) - 1=F+d by omega] at hbit
    have key : ∀ t0 : Nat, t0 < 1440 → hi = (F + d) * 1440 + t0 + 1 → (if z = true ∧ d + 1 = cd then ct else 1439) = t0 →
        Nx.ResB (fun t=>dB (t / 1440) && Nx.timB b0 b1 (t % 1440)) (F*1440) hi (if N.testBit (d+1)=false∨(z=true∧cd < d+1) then Nx.dayBack b0 b1 N F z cd ct d else
          match Nx.lateR b0 b1 (if z=true∧d+1=cd then ct else 1439) with
          | some u=>some ((F+d)*1440+u)
          | none=>Nx.dayBack b0 b1 N F z cd ct d):=by
      intro t0 ht0 e0 et
      have hz2:¬ (z=true∧cd≤d):=fun q=>c1 ⟨q.1,by omega⟩
      have ih:=Nx.dayBack_spec hM hS z cd ct hct hcd1 hcd2 d ((F+d)*1440) (by omega) (by rw [if_neg hz2,show min d L=d by omega])
      have next:(∀ u,u < t0+1→(dB (F+d) && Nx.timB b0 b1 u)=false)→Nx.ResB (fun t=>dB (t / 1440) && Nx.timB b0 b1 (t % 1440)) (F*1440) hi (Nx.dayBack b0 b1 N F z cd ct d):=by
        intro hno
        refine Nx.ResB.less (mid:=(F+d)*1440) (fun t q1 q2=>?_) (by omega) ih
        have e:t / 1440=F+d:=by omega
        show (dB (t / 1440) && Nx.timB b0 b1 (t % 1440))=false
        rw [e]
        exact hno (t % 1440) (by omega)
      rw [et]
      by_cases hb:N.testBit (d+1)=false
      · rw [if_pos (.inl hb)]
        exact next (fun u _=>by rw [← hbit,hb]; rfl)
      · rw [if_neg (by rintro (q | q); exact hb q; exact c1 q),hS t0 ht0]
        have hb':dB (F+d)=true:=by rw [← hbit]; simpa using hb
        cases hf:Nx.back (Nx.timB b0 b1) (t0+1) with
        | none=>exact next (fun u q2=>by rw [Nx.back_none hf u q2,Bool.and_false])
        | some u=>
          obtain ⟨q2,q3,q4⟩ :=Nx.back_some hf
          refine ⟨by omega,by omega,?_,fun t w1 w2=>?_⟩
          · show (dB (((F+d)*1440+u) / 1440) && Nx.timB b0 b1 (((F+d)*1440+u) % 1440))=true
            rw [show ((F+d)*1440+u) / 1440=F+d by omega,show ((F+d)*1440+u) % 1440=u by omega,hb',q3]; rfl
          · show (dB (t / 1440) && Nx.timB b0 b1 (t % 1440))=false
            rw [q4 (t % 1440) (by omega) (by omega),Bool.and_false]
    by_cases hz:z=true∧d+1=cd
    · exact key ct hct (by rw [hhi,if_pos ⟨hz.1,by omega⟩,← hz.2]; rfl) (by rw [if_pos hz])
    · exact key 1439 (by decide) (by rw [hhi,if_neg (by rintro ⟨q1,q2⟩; exact hz ⟨q1,by rcases Nat.lt_or_eq_of_le q2 with q | q; exact absurd ⟨q1,q⟩ c1; exact q.symm⟩),show min (d+1) L=d+1 by omega]; omega) (by rw [if_neg hz])
def Nx.scanDn (b0 b1:Int)(cd ct:Nat)(x:Nat × Int × Int):Option Nat:=Nx.dayBack b0 b1 x.2.2.toNat x.2.1.toNat (decide (x.1=0)) cd ct 31
theorem Nx.downs_spec {b0 b1 b2 : Int} {s2 : Bool} {b3 b4 : Int} {s4 : Bool} (hS : ∀ t, t < 1440 → Nx.lateR b0 b1 t = Nx.back (Nx.timB b0 b1) (t + 1)) (cd ct s : Nat) (hct : ct < 1440) (hcd : 1 ≤ cd) :
    ∀ (f:Nat) (y m:Int) (n:Nat) (hi:Nat),1970≤y→y≤2999→0≤m→m≤12→(y - 1970)*12+m+2≤f→(n=0→1≤m∧(cd:Int)≤Civ.len y m∧(s:Int)=(Civ.num y m 1+cd - 1)*1440+ct)→
      (hi:Int)=(if n=0 then (s:Int)+1 else Civ.num y (m+1) 1*1440)→
      Nx.ResB (fun t=>Nx.dayB b2 s2 b3 b4 s4 ((t / 1440:Nat):Int) && Nx.timB b0 b1 (t % 1440)) 0 hi ((Nx.mons (Dy.mask false b2 s2 b3 b4 s4) (-1) f y m n).findSome? (Nx.scanDn b0 b1 cd ct))
  | 0,y,m,n,hi,_,_,_,_,hf,_,_=>by omega
  | f+1,y,m,n,hi,h1,h2,h3,h4,hf,hn0,hhi=>by
    by_cases hend:y=1970∧m=0
    · obtain ⟨rfl,rfl⟩ :=hend
      rw [Nx.mons_step _ (-1) f 1970 0 n (by omega) 1969 12 rfl rfl]
      have he:(Dy.mask false b2 s2 b3 b4 s4 1969 12).2=1:=by
        unfold Dy.mask
        rw [if_neg (by decide),show Civ.day 1969 12 1=(0,1) from by decide,if_pos (by decide)]
      rw [if_neg (by rw [he]; rintro ⟨q,_⟩; exact absurd q (by decide)),Nx.mons_end _ _ _ _ _ _ (by omega)]
      have hn:n≠0:=fun e=>by have:=(hn0 e).1; omega
      rw [if_neg hn,show Civ.num 1970 (0+1) 1=0 from by decide] at hhi
      intro t q1 q2
      exfalso
      omega
    · obtain ⟨y', m', hy', hm', g1, g2, g3, g4, g5, g6⟩ : ∃ y' m' : Int, (if m < 1 ∨ 12 < m then y + -1 else y) = y' ∧ (if m < 1 ∨ 12 < m then (m + 11) % 12 + 1 else m) = m' ∧ 1970 ≤ y' ∧ y' ≤ 2999 ∧ 1 ≤ m' ∧ m' ≤ 12 ∧ Civ.num y (m + 1) 1 = Civ.num y' (m' + 1) 1 ∧ ((1 ≤ m → y' = y ∧ m' = m) ∧ (y' - 1970) * 12 + (m' + -1) + 2 ≤ f) := by
        by_cases h0:m=0
        · subst h0
          refine ⟨y+-1,12,by rw [if_pos (by omega)],by rw [if_pos (by omega)]; rfl,by omega,by omega,by omega,by omega,?_,fun h=>by omega,by omega⟩
          have:=Nx.num13 (y+-1)
          rw [show y+-1+1=y by omega] at this
          exact this.symm
        · exact ⟨y,m,by rw [if_neg (by omega)],by rw [if_neg (by omega)],h1,h2,by omega,h4,rfl,fun _=>⟨rfl,rfl⟩,by omega⟩
      obtain ⟨F,L,N,hday,hlen,hmask,hL28,hF,hFL,hFL2,hM,hlt,hzero⟩ :=Nx.mon_of b2 s2 b3 b4 s4 g1 g2 g3 g4
      rw [Nx.mons_step _ (-1) f y m n ⟨h1,h2⟩ y' m' hy' hm',hmask,hday]
      dsimp only
      have hFs:=Nx.downs_spec (b2:=b2) (s2:=s2) (b3:=b3) (b4:=b4) (s4:=s4) hS cd ct s hct hcd f y' (m'+-1) (n+1) (F*1440) g1 g2 (by omega) (by omega) g6.2 (fun e=>by omega) (by rw [if_neg (by omega),show m'+-1+1=m' by omega,← hF]; omega)
      have hgap:(∀ d:Nat,1≤d→d≤L→Nx.dayB b2 s2 b3 b4 s4 ((F+d - 1:Nat):Int)=false)→∀ t,F*1440≤t→t < (F+L)*1440→(Nx.dayB b2 s2 b3 b4 s4 ((t / 1440:Nat):Int) && Nx.timB b0 b1 (t % 1440))=false:=by
        intro hz t q1 q2
        have e:t / 1440=F+(t / 1440 - F+1) - 1:=by omega
        rw [e,hz (t / 1440 - F+1) (by omega) (by omega)]
        rfl
      have hhi1:F*1440≤hi∧hi≤(F+L)*1440:=by
        by_cases hn:n=0
        · obtain ⟨q1,q2,q3⟩ :=hn0 hn
          obtain ⟨r1,r2⟩ :=g6.1 q1
          rw [if_pos hn] at hhi
          rw [← r1,← r2,← hF] at q3
          rw [r1,r2] at hlen
          rw [hlen] at q2
          omega
        · rw [if_neg hn,g5,← hFL] at hhi
          omega
      by_cases hN:N=0
      · rw [if_neg (by rintro ⟨_,q⟩; exact q (by rw [hN]; rfl))]
        exact Nx.ResB.less (fun t q1 q2=>hgap (hzero hN) t q1 (by omega)) hhi1.1 hFs
      · rw [if_pos ⟨rfl,by omega⟩,List.findSome?_cons]
        have hsc:Nx.ResB (fun t=>Nx.dayB b2 s2 b3 b4 s4 ((t / 1440:Nat):Int) && Nx.timB b0 b1 (t % 1440)) (F*1440) hi (Nx.scanDn b0 b1 cd ct (n,(F:Int),(N:Int))):=by
          unfold Nx.scanDn
          dsimp only
          rw [Int.toNat_natCast,Int.toNat_natCast]
          by_cases hn:n=0
          · obtain ⟨q1,q2,q3⟩ :=hn0 hn
            obtain ⟨r1,r2⟩ :=g6.1 q1
            rw [if_pos hn] at hhi
            rw [← r1,← r2,← hF] at q3
            rw [r1,r2] at hlen
            rw [hlen] at q2
            exact Nx.dayBack_spec hM hS (decide (n=0)) cd ct hct hcd (by omega) 31 hi (by omega) (by rw [if_pos ⟨decide_eq_true hn,by have:=hM.len; omega⟩]; omega)
          · rw [if_neg hn,g5,← hFL] at hhi
            rw [decide_eq_false hn]
            have hcdx:∀ (c c':Nat) (d:Nat),Nx.dayBack b0 b1 N F false c ct d=Nx.dayBack b0 b1 N F false c' ct d:=by
              intro c c' d
              induction d with
              | zero=>rfl
              | succ d ih=>unfold Nx.dayBack; simp only [Bool.false_eq_true,false_and,or_false,if_false]; rw [ih]
            rw [hcdx cd 1]
            exact Nx.dayBack_spec hM hS false 1 ct hct (by decide) (by omega) 31 hi (by omega) (by rw [if_neg (by simp),show min 31 L=L by have:=hM.len; omega]; omega)
        revert hsc
        cases Nx.scanDn b0 b1 cd ct (n,(F:Int),(N:Int)) with
        | some r=>exact fun hsc=>Nx.ResB.some_less (by omega) hsc
        | none=>exact fun hsc=>Nx.ResB.less (fun t q1 q2=>hsc t q1 q2) hhi1.1 hFs
/-! How many minutes match, by days and by months. -/
theorem Nx.cnt_day (dB:Nat→Bool)(tB:Nat→Bool)(D:Nat):∀ (k u:Nat),u+k≤1440→Nx.cnt (fun t=>dB (t / 1440) && tB (t % 1440)) k (D*1440+u)=if dB D=true then Nx.cnt tB k u else 0
  | 0,u,_=>by simp [Nx.cnt]
  | k+1,u,h=>by
    simp only [Nx.cnt]
    have e1:(D*1440+u) / 1440=D:=by omega
    have e2:(D*1440+u) % 1440=u:=by omega
    rw [show D*1440+u+1=D*1440+(u+1) by omega,Nx.cnt_day dB tB D k (u+1) (by omega),e1,e2]
    cases dB D with
    | true=>rw [if_pos rfl,if_pos rfl,Bool.true_and]
    | false=>rw [if_neg (by decide),if_neg (by decide),Bool.false_and]; rfl
theorem Nx.cnt_days' (dB:Nat→Bool)(tB:Nat→Bool)(W:Nat)(hW:∀ D,Nx.cnt (fun t=>dB (t / 1440) && tB (t % 1440)) 1440 (D*1440)=if dB D=true then W else 0):∀ (n D:Nat),Nx.cnt (fun t=>dB (t / 1440) && tB (t % 1440)) (n*1440) (D*1440)=Nx.cnt dB n D*W
  | 0,D=>by rw [Nat.zero_mul]; exact (Nat.zero_mul W).symm
  | n+1,D=>by
    have ih:=Nx.cnt_days' dB tB W hW n (D+1)
    rw [show (n+1)*1440=1440+n*1440 by omega,Nx.cnt_add,show D*1440+1440=(D+1)*1440 by omega,ih,hW D]
    show _=((dB D).toNat+Nx.cnt dB n (D+1))*W
    cases dB D with
    | true=>rw [if_pos rfl,Nat.add_mul]; show _=1*_+_; rw [Nat.one_mul]
    | false=>rw [if_neg (by decide),Nat.add_mul]; show _=0*_+_; rw [Nat.zero_mul]
/-- A month's days up to one, counted by its mask. -/
theorem Nx.cnt_mask {dB:Nat→Bool}{F L N:Nat}(hM:Nx.Mon dB F L N)(h0:N.testBit 0=false):∀ (k d:Nat),1≤d→d+k≤L+1→Nx.cnt (fun i=>N.testBit i) k d=Nx.cnt dB k (F+d - 1)
  | 0,_,_,_=>rfl
  | k+1,d,h1,h2=>by
    have hL:=hM.len
    have hb:=hM.bits d h1 (by omega)
    rw [decide_eq_true (by omega),Bool.true_and] at hb
    simp only [Nx.cnt]
    rw [hb,Nx.cnt_mask hM h0 k (d+1) (by omega) (by omega),show F+(d+1) - 1=F+d - 1+1 by omega]
/-- All of a mask. -/
theorem Nx.cnt_mask_all {dB:Nat→Bool}{F L N:Nat}(hM:Nx.Mon dB F L N)(h0:N.testBit 0=false)(hlt:N < 2 ^ 32)(K:Nat)(hK:32≤K):Nx.cnt (fun i=>N.testBit i) K 0=Nx.cnt dB L F:=by
  have hL:=hM.len
  have e:K=1+(L+(K - 1 - L)):=by omega
  rw [e,Nx.cnt_add,Nx.cnt_add]
  have z1:Nx.cnt (fun i=>N.testBit i) 1 0=0:=by simp [Nx.cnt,h0]
  have z2:Nx.cnt (fun i=>N.testBit i) (K - 1 - L) (0+1+L)=0:=by
    rw [Nx.cnt_zero]
    intro j q1 q2
    by_cases hj:j≤31
    · have:=hM.bits j (by omega) hj
      rw [decide_eq_false (by omega),Bool.false_and] at this
      exact this
    · exact Nat.testBit_lt_two_pow (Nat.lt_of_lt_of_le hlt (Nat.pow_le_pow_right (by decide) (by omega)))
  rw [z1,z2,Nx.cnt_mask hM h0 L (0+1) (by omega) (by omega),show F+(0+1) - 1=F by omega]
  omega
/-- The days below one. -/
theorem Nx.cnt_mask_low {dB:Nat→Bool}{F L N:Nat}(hM:Nx.Mon dB F L N)(h0:N.testBit 0=false)(c:Nat)(hc:1≤c)(hcL:c≤L+1)(K:Nat)(hK:c≤K):Nx.cnt (fun i=>(N % 2 ^ c).testBit i) K 0=Nx.cnt dB (c - 1) F:=by
  have e:K=1+((c - 1)+(K - c)):=by omega
  rw [e,Nx.cnt_add,Nx.cnt_add]
  have hm:∀ i,(N % 2 ^ c).testBit i=(decide (i < c) && N.testBit i):=fun i=>Nat.testBit_mod_two_pow N c i
  have z1:Nx.cnt (fun i=>(N % 2 ^ c).testBit i) 1 0=0:=by simp [Nx.cnt,hm,h0]
  have z2:Nx.cnt (fun i=>(N % 2 ^ c).testBit i) (K - c) (0+1+(c - 1))=0:=by
    rw [Nx.cnt_zero]
    intro j q1 q2
    show (N % 2 ^ c).testBit j=false
    rw [hm,decide_eq_false (by omega),Bool.false_and]
  have z3:Nx.cnt (fun i=>(N % 2 ^ c).testBit i) (c - 1) (0+1)=Nx.cnt (fun i=>N.testBit i) (c - 1) (0+1):=Nx.cnt_congr (fun j q1 q2=>by
    show (N % 2 ^ c).testBit j=N.testBit j
    rw [hm,decide_eq_true (by omega),Bool.true_and])
  rw [z1,z2,z3,Nx.cnt_mask hM h0 (c - 1) (0+1) (by omega) (by omega),show F+(0+1) - 1=F by omega]
  omega
/-! How many minutes match in the whole months ahead of one. -/
theorem Nx.num_le {y m y' m':Int}(h1:1≤m)(h2:m≤13)(h3:1≤m')(h4:m'≤12)(h:y < y'∨(y=y'∧m≤m')):Civ.num y m 1≤Civ.num y' m' 1:=by
  rcases h with h | ⟨rfl,h⟩
  · have e1:=Nx.num13 y
    have e2:Civ.num y m 1≤Civ.num y 13 1:=by
      unfold Civ.num
      have:=Civ.cum_mono y (show (m - 1).toNat≤((13:Int) - 1).toNat by omega)
      omega
    have e3:Civ.num (y+1) 1 1≤Civ.num y' 1 1:=by
      unfold Civ.num
      have:=Civ.dby_mono (show y+1≤y' by omega)
      rw [show ((1:Int) - 1).toNat=0 from rfl]
      simp only [Civ.cum]
      omega
    have e4:Civ.num y' 1 1≤Civ.num y' m' 1:=by
      unfold Civ.num
      have:=Civ.cum_mono y' (show ((1:Int) - 1).toNat≤(m' - 1).toNat by omega)
      omega
    omega
  · unfold Civ.num
    have:=Civ.cum_mono y (show (m - 1).toNat≤(m' - 1).toNat by omega)
    omega
theorem Nx.cnt_nil (p:Nat→Bool)(i:Nat):Nx.cnt p 0 i=0:=rfl
theorem Nx.mask0 (b2:Int)(s2:Bool)(b3 b4:Int)(s4:Bool)(y m:Int)(N:Nat)(h:Dy.mask false b2 s2 b3 b4 s4 y m=((N:Int),0)):N.testBit 0=false:=by
  obtain ⟨N',hN,-,-,hz⟩ :=mask_bits false b2 s2 b3 b4 s4 y m
  rw [h] at hN hz
  obtain rfl:N=N':=by exact Int.ofNat.inj hN
  obtain ⟨-,-,hb⟩ :=hz rfl
  rw [hb 0]
  simp
def Nx.pop (N:Nat):Nat:=Nx.cnt (fun i=>N.testBit i) 32 0
def Nx.sumTo (W:Nat)(yb mb:Int):List (Nat × Int × Int)→Nat
  | []=>0
  | x :: l=>if Civ.yr x.2.1 > yb∨(Civ.yr x.2.1=yb∧1+(Civ.mi x.2.1:Int)≥mb) then 0 else Nx.pop x.2.2.toNat*W+Nx.sumTo W yb mb l
theorem Nx.sum_spec {b0 b1 b2 : Int} {s2 : Bool} {b3 b4 : Int} {s4 : Bool} (W : Nat) (hW : ∀ D, Nx.cnt (fun t => Nx.dayB b2 s2 b3 b4 s4 ((t / 1440 : Nat) : Int) && Nx.timB b0 b1 (t % 1440)) 1440 (D * 1440) = if Nx.dayB b2 s2 b3 b4 s4 (D : Int) = true then W else 0) (yb mb : Int) (hb1 : 1970 ≤ yb) (hb2 : yb ≤ 2999) (hb3 : 1 ≤ mb) (hb4 : mb ≤ 12) :
    ∀ (f:Nat) (y m:Int) (n:Nat),1970≤y→y≤2999→1≤m→m≤13→(2999 - y)*12+(13 - m)+2≤f→
      Nx.sumTo W yb mb (Nx.mons (Dy.mask false b2 s2 b3 b4 s4) 1 f y m n)=Nx.cnt (fun t=>Nx.dayB b2 s2 b3 b4 s4 ((t / 1440:Nat):Int) && Nx.timB b0 b1 (t % 1440)) ((Civ.num yb mb 1 - Civ.num y m 1).toNat*1440) ((Civ.num y m 1).toNat*1440)
  | 0,y,m,n,_,_,_,_,hf=>by omega
  | f+1,y,m,n,h1,h2,h3,h4,hf=>by
    have hokb:Civ.ok yb mb 1:=by
      have:=Civ.len_ge (y:=yb) hb3 hb4
      unfold Civ.ok; omega
    have hbb:=Civ.num_bd hokb
    by_cases hend:y=2999∧m=13
    · obtain ⟨rfl,rfl⟩ :=hend
      rw [Nx.mons_step _ 1 f 2999 13 n (by omega) 3000 1 rfl rfl]
      have he:(Dy.mask false b2 s2 b3 b4 s4 3000 1).2=1:=by
        unfold Dy.mask
        rw [if_neg (by decide),show Civ.day 3000 1 1=(0,1) from by decide,if_pos (by decide)]
      rw [if_neg (by rw [he]; rintro ⟨q,_⟩; exact absurd q (by decide)),Nx.mons_end _ _ _ _ _ _ (by omega)]
      rw [show Civ.num 2999 13 1=376200 from by decide,show (Civ.num yb mb 1 - 376200).toNat=0 by omega,Nat.zero_mul,Nx.cnt_nil]
      rfl
    · obtain ⟨y', m', hy', hm', g1, g2, g3, g4, g5, g6⟩ : ∃ y' m' : Int, (if m < 1 ∨ 12 < m then y + 1 else y) = y' ∧ (if m < 1 ∨ 12 < m then (m + 11) % 12 + 1 else m) = m' ∧ 1970 ≤ y' ∧ y' ≤ 2999 ∧ 1 ≤ m' ∧ m' ≤ 12 ∧ Civ.num y m 1 = Civ.num y' m' 1 ∧ (2999 - y') * 12 + (13 - (m' + 1)) + 2 ≤ f := by
        by_cases h13:m=13
        · subst h13
          exact ⟨y+1,1,by rw [if_pos (by omega)],by rw [if_pos (by omega)]; rfl,by omega,by omega,by omega,by omega,Nx.num13 y,by omega⟩
        · exact ⟨y,m,by rw [if_neg (by omega)],by rw [if_neg (by omega)],h1,h2,h3,by omega,rfl,by omega⟩
      obtain ⟨F,L,N,hday,hlen,hmask,hL28,hF,hFL,hFL2,hM,hlt,hzero⟩ :=Nx.mon_of b2 s2 b3 b4 s4 g1 g2 g3 g4
      rw [Nx.mons_step _ 1 f y m n ⟨h1,h2⟩ y' m' hy' hm',hmask,hday]
      dsimp only
      have ih:=Nx.sum_spec (b0:=b0) (b1:=b1) W hW yb mb hb1 hb2 hb3 hb4 f y' (m'+1) (n+1) g1 g2 (by omega) (by omega) g6
      rw [← hFL] at ih
      rw [g5,← hF]
      have hok:Civ.ok y' m' 1:=by unfold Civ.ok; omega
      obtain ⟨ey,em⟩:Civ.yr (F:Int)=y'∧1+(Civ.mi (F:Int):Int)=m':=by
        have hb:=Civ.num_bd hok
        have e:=Civ.date_num hok
        rw [Civ.date_is hb.1 hb.2,← hF] at e
        injection e with e1 e
        injection e with e2 e
        exact ⟨e1,e2⟩
      have hpop:Nx.pop N=Nx.cnt (fun D=>Nx.dayB b2 s2 b3 b4 s4 (D:Int)) L F:=Nx.cnt_mask_all hM (Nx.mask0 b2 s2 b3 b4 s4 y' m' N hmask) hlt 32 (Nat.le_refl _)
      by_cases hge:y' > yb∨(y'=yb∧m'≥mb)
      · have hle:=Nx.num_le (y:=yb) (m:=mb) (y':=y') (m':=m') hb3 (by omega) g3 g4 (by omega)
        rw [← hF] at hle
        rw [show (Civ.num yb mb 1 - (F:Int)).toNat=0 by omega,Nat.zero_mul]
        rw [show (Civ.num yb mb 1 - ((F+L:Nat):Int)).toNat=0 by omega,Nat.zero_mul] at ih
        by_cases hN:N=0
        · rw [if_neg (by rintro ⟨_,q⟩; exact q (by rw [hN]; rfl)),ih]
          rw [Nx.cnt_nil,Nx.cnt_nil]
        · rw [if_pos ⟨rfl,by omega⟩]
          unfold Nx.sumTo
          dsimp only
          rw [ey,em,if_pos hge,Nx.cnt_nil]
      · have hle:=Nx.num_le (y:=y') (m:=m'+1) (y':=yb) (m':=mb) (by omega) (by omega) hb3 hb4 (by omega)
        rw [← hFL] at hle
        have hsplit:(Civ.num yb mb 1 - (F:Int)).toNat*1440=L*1440+(Civ.num yb mb 1 - ((F+L:Nat):Int)).toNat*1440:=by omega
        rw [hsplit,Nx.cnt_add,Int.toNat_natCast]
        rw [Int.toNat_natCast] at ih
        rw [← Nat.add_mul F L 1440,← ih,Nx.cnt_days' (fun D=>Nx.dayB b2 s2 b3 b4 s4 (D:Int)) (Nx.timB b0 b1) W hW L F,← hpop]
        by_cases hN:N=0
        · rw [if_neg (by rintro ⟨_,q⟩; exact q (by rw [hN]; rfl))]
          rw [show Nx.pop N=0 by rw [hN]; unfold Nx.pop; rw [Nx.cnt_zero]; intro j _ _; exact Nat.zero_testBit j]
          rw [Nat.zero_mul,Nat.zero_add]
        · rw [if_pos ⟨rfl,by omega⟩]
          conv=>lhs; unfold Nx.sumTo
          dsimp only
          rw [ey,em,if_neg hge,Int.toNat_natCast]
theorem Nx.hW_of (b0 b1 b2:Int)(s2:Bool)(b3 b4:Int)(s4:Bool)(W:Nat)(h:Nx.cnt (Nx.timB b0 b1) 1440 0=W)(D:Nat):Nx.cnt (fun t=>Nx.dayB b2 s2 b3 b4 s4 ((t / 1440:Nat):Int) && Nx.timB b0 b1 (t % 1440)) 1440 (D*1440)=if Nx.dayB b2 s2 b3 b4 s4 (D:Int)=true then W else 0:=by
  have:=Nx.cnt_day (fun D=>Nx.dayB b2 s2 b3 b4 s4 (D:Int)) (Nx.timB b0 b1) D 1440 0 (by omega)
  rw [Nat.add_zero,h] at this
  exact this
/-! How many match from the beginning of a minute's month up to it; and from one minute up to another one. -/
theorem Nx.up_is {dB tB : Nat → Bool} {W F L N : Nat} (hM : Nx.Mon dB F L N) (h0 : N.testBit 0 = false) (hW : ∀ D, Nx.cnt (fun t => dB (t / 1440) && tB (t % 1440)) 1440 (D * 1440) = if dB D = true then W else 0) (cd ct : Nat) (hc1 : 1 ≤ cd) (hc2 : cd ≤ L) (ht : ct < 1440) :
    Nx.pop (N % 2 ^ cd)*W+(if N.testBit cd=true then Nx.cnt tB ct 0 else 0)=Nx.cnt (fun t=>dB (t / 1440) && tB (t % 1440)) ((cd - 1)*1440+ct) (F*1440):=by
  have hL:=hM.len
  have hb:=hM.bits cd hc1 (by omega)
  rw [decide_eq_true hc2,Bool.true_and] at hb
  rw [Nx.cnt_add,Nx.cnt_days' dB tB W hW (cd - 1) F,← Nat.add_mul F (cd - 1) 1440]
  have h1:=Nx.cnt_mask_low hM h0 cd hc1 (by omega) 32 (by omega)
  have h2:=Nx.cnt_day dB tB (F+(cd - 1)) ct 0 (by omega)
  rw [Nat.add_zero] at h2
  rw [h2,hb,show F+cd - 1=F+(cd - 1) by omega]
  unfold Nx.pop
  rw [h1]
theorem Nx.total (p : Nat → Bool) (A B ua ub sa sb : Nat) (h1 : sa = A + ua) (h2 : sb = B + ub) (h3 : sa ≤ sb) (h4 : A ≤ B) :
    Nx.cnt p (sb+1 - sa) sa+Nx.cnt p ua A=Nx.cnt p (B - A) A+Nx.cnt p ub B+(p sb).toNat:=by
  have e1:Nx.cnt p (ua+(sb+1 - sa)) A=Nx.cnt p ua A+Nx.cnt p (sb+1 - sa) (A+ua):=Nx.cnt_add p ua (sb+1 - sa) A
  have e2:Nx.cnt p ((B - A)+(ub+1)) A=Nx.cnt p (B - A) A+Nx.cnt p (ub+1) (A+(B - A)):=Nx.cnt_add p (B - A) (ub+1) A
  have e3:Nx.cnt p (ub+1) B=Nx.cnt p ub B+Nx.cnt p 1 (B+ub):=Nx.cnt_add p ub 1 B
  have e4:Nx.cnt p 1 (B+ub)=(p sb).toNat:=by rw [h2]; rfl
  have e5:ua+(sb+1 - sa)=(B - A)+(ub+1):=by omega
  rw [e5,e2,← h1,show A+(B - A)=B by omega,e3,e4] at e1
  omega
/-- The months of two minutes lie as they do. -/
theorem Nx.mons_le {ya ma yb mb da db:Int}(ha:Civ.ok ya ma da)(hb:Civ.ok yb mb db)(h:Civ.num ya ma da≤Civ.num yb mb db):Civ.num ya ma 1≤Civ.num yb mb 1:=by
  obtain ⟨a1,a2,a3,a4,a5,a6⟩ :=ha
  obtain ⟨b1,b2,b3,b4,b5,b6⟩ :=hb
  by_cases c:ya < yb∨(ya=yb∧ma≤mb)
  · exact Nx.num_le a3 (by omega) b3 b4 c
  · have hle:=Nx.num_le (y:=yb) (m:=mb+1) (y':=ya) (m':=ma) (by omega) (by omega) a3 a4 (by omega)
    exfalso
    have hc:Civ.cum yb (mb+1 - 1).toNat=Civ.cum yb (mb - 1).toNat+Civ.len yb mb:=by
      obtain ⟨k,hk⟩:∃ k:Nat,mb=k+1:=⟨(mb - 1).toNat,by omega⟩
      subst hk
      rw [show ((k:Int)+1+1 - 1).toNat=k+1 by omega,show ((k:Int)+1 - 1).toNat=k by omega,Civ.cum_len]
    unfold Civ.num at h hle
    omega
/-! The day behind and the day ahead. -/
theorem Civ.next_day {d : Int} (h0 : 0 ≤ d) (h : d < 376199) :
    Civ.date (d+1)=if Civ.dy d < Civ.len (Civ.yr d) (1+Civ.mi d) then (Civ.yr d,1+(Civ.mi d:Int),Civ.dy d+1,0) else if 1+(Civ.mi d:Int) < 12 then (Civ.yr d,1+(Civ.mi d:Int)+1,1,0) else (Civ.yr d+1,1,1,0):=by
  obtain ⟨ok,hn⟩ :=Civ.date_ok (d:=d) h0 (by omega)
  obtain ⟨h1,h2,h3,h4,h5,h6⟩ :=ok
  have hs:=Civ.cum_len (Civ.yr d) (Civ.mi d)
  rw [show ((Civ.mi d:Int)+1)=1+Civ.mi d by omega] at hs
  have e1:(1+(Civ.mi d:Int) - 1).toNat=Civ.mi d:=by omega
  unfold Civ.num at hn
  rw [e1] at hn
  split
  · rename_i hl
    rw [← Civ.date_num (y:=Civ.yr d) (m:=1+Civ.mi d) (d:=Civ.dy d+1) ⟨h1,h2,h3,h4,by omega,by omega⟩]
    congr 1
    unfold Civ.num
    rw [e1]
    omega
  · rename_i hl
    split
    · rename_i hm
      have hp:=Civ.len_ge (y:=Civ.yr d) (m:=1+(Civ.mi d:Int)+1) (by omega) (by omega)
      rw [← Civ.date_num (y:=Civ.yr d) (m:=1+Civ.mi d+1) (d:=1) ⟨h1,h2,by omega,by omega,by omega,by omega⟩]
      congr 1
      unfold Civ.num
      rw [show (1+(Civ.mi d:Int)+1 - 1).toNat=Civ.mi d+1 by omega,hs]
      omega
    · rename_i hm
      have hp:=Civ.len_ge (y:=Civ.yr d+1) (m:=1) (by omega) (by omega)
      have h12:=Civ.cum12 (Civ.yr d)
      have e12:Civ.mi d=11:=by omega
      rw [e12] at hs hn hl h6
      have hy:Civ.yr d≤2998:=by
        by_cases c:Civ.yr d=2999
        · have:Civ.dby (Civ.yr d+1)=376200:=by rw [c]; decide
          rw [show (11+1:Nat)=12 by rfl] at hs
          omega
        · omega
      rw [← Civ.date_num (y:=Civ.yr d+1) (m:=1) (d:=1) ⟨by omega,by omega,by omega,by omega,by omega,by omega⟩]
      congr 1
      unfold Civ.num
      rw [show ((1:Int) - 1).toNat=0 by decide]
      simp only [Civ.cum]
      rw [show (11+1:Nat)=12 by rfl] at hs
      omega
theorem Nx.prev_day {d : Int} (h0 : 1 ≤ d) (h : d ≤ 376199) :
    Civ.date (d - 1)=if Civ.dy d > 1 then (Civ.yr d,1+(Civ.mi d:Int),Civ.dy d - 1,0) else if 1+(Civ.mi d:Int) > 1 then (Civ.yr d,1+(Civ.mi d:Int) - 1,Civ.len (Civ.yr d) (1+(Civ.mi d:Int) - 1),0) else (Civ.yr d - 1,12,31,0):=by
  have n:=Civ.next_day (d:=d - 1) (by omega) (by omega)
  obtain ⟨ok,-⟩ :=Civ.date_ok (d:=d - 1) (by omega) (by omega)
  obtain ⟨k1,k2,k3,k4,k5,k6⟩ :=ok
  rw [show d - 1+1=d by omega,Civ.date_is (by omega) h] at n
  rw [Civ.date_is (by omega) (by omega)]
  by_cases c1:Civ.dy (d - 1) < Civ.len (Civ.yr (d - 1)) (1+(Civ.mi (d - 1):Int))
  · rw [if_pos c1] at n
    injection n with n1 n
    injection n with n2 n
    injection n with n3 n
    rw [if_pos (by omega),n1,n2,n3,show Civ.dy (d - 1)+1 - 1=Civ.dy (d - 1) by omega]
  · rw [if_neg c1] at n
    by_cases c2:1+(Civ.mi (d - 1):Int) < 12
    · rw [if_pos c2] at n
      injection n with n1 n
      injection n with n2 n
      injection n with n3 n
      rw [if_neg (by omega),if_pos (by omega),n1,n2,show 1+(Civ.mi (d - 1):Int)+1 - 1=1+(Civ.mi (d - 1):Int) by omega,show Civ.len (Civ.yr (d - 1)) (1+(Civ.mi (d - 1):Int))=Civ.dy (d - 1) by omega]
    · rw [if_neg c2] at n
      injection n with n1 n
      injection n with n2 n
      injection n with n3 n
      have e12:1+(Civ.mi (d - 1):Int)=12:=by omega
      have e31:Civ.len (Civ.yr (d - 1)) 12=31:=by unfold Civ.len; simp
      rw [e12,e31] at k6 c1
      rw [if_neg (by omega),if_neg (by omega),n1,e12,show Civ.yr (d - 1)+1 - 1=Civ.yr (d - 1) by omega,show Civ.dy (d - 1)=31 by omega]
def firstN (f:Nat→Bool):Nat→Nat→Option Nat
  | _,0=>none
  | v,d+1=>if f v then some v else firstN f (v+1) d
theorem first_ntz:∀ (d m n:Nat),n < 2 ^ (m+d)→firstN (fun i=>n.testBit i) m d=if n / 2 ^ m=0 then none else some (m+Fld.ntzN d (n / 2 ^ m))
  | 0,m,n,h=>by rw [if_pos (Nat.div_eq_of_lt (by simpa using h))]; rfl
  | d+1,m,n,h=>by
    have ih:=first_ntz d (m+1) n (by rw [show m+1+d=m+(d+1) by omega]; exact h)
    have hq:n / 2 ^ (m+1)=n / 2 ^ m / 2:=by rw [Nat.pow_succ,Nat.div_div_eq_div_mul]
    have ht:n.testBit m=decide (n / 2 ^ m % 2=1):=Nat.testBit_eq_decide_div_mod_eq
    unfold firstN
    rw [ht,ih,hq]
    generalize n / 2 ^ m=q
    by_cases h1:q % 2=1
    · rw [decide_eq_true h1,if_pos rfl,if_neg (by omega)]
      unfold Fld.ntzN
      rw [if_pos h1]
      rfl
    · rw [decide_eq_false h1,if_neg (by decide)]
      by_cases h2:q=0
      · rw [if_pos (by omega),if_pos h2]
      · rw [if_neg (by omega),if_neg h2]
        show _=some (m+Fld.ntzN (d+1) q)
        rw [Fld.ntzN,if_neg h1]
        congr 1
        omega
theorem ntz_shift:∀ (m f q:Nat),Fld.ntzN (m+f) (q*2 ^ m)=m+Fld.ntzN f q
  | 0,f,q=>by simp
  | m+1,f,q=>by
    rw [show m+1+f=(m+f)+1 by omega,Fld.ntzN]
    have h1:q*2 ^ (m+1)=2*(q*2 ^ m):=by rw [Nat.pow_succ,← Nat.mul_assoc,Nat.mul_comm]
    rw [h1,if_neg (by omega),Nat.mul_div_cancel_left _ (by decide),ntz_shift m f q]
    omega
/-! What next's inner functions answer. -/
theorem Nx.firstN_find (f:Nat→Bool):∀ (d v:Nat),firstN f v d=Nx.find f d v
  | 0,_=>rfl
  | d+1,v=>by
    unfold firstN Nx.find
    rw [Nx.firstN_find f d (v+1)]
theorem Nx.bit_nat (x:Nat):Nx.bit (x:Int)=fun i=>x.testBit i:=by
  funext i
  unfold Nx.bit Dy.bitAt
  rw [Int.toNat_natCast]
theorem Nx.first_f (b:Int)(s:Bool)(hb:InU b)(n:Nat):field_First.f b s (n:Int)=some (match Nx.fst b n with | some i=>((i:Int),true) | none=>(0,false)):=by
  unfold field_First.f
  have hm:mx (n:Int) 0=n:=by unfold mx; split <;> omega
  rw [hm]
  obtain ⟨x,rfl,hx⟩ :=nat_of b hb
  by_cases h:(n:Int) > 63
  · rw [if_pos h,Nx.fst,show 64 - n=0 by omega]; rfl
  · have hw:IntKind.u64.wrap (n:Int)=n:=by rw [u64w]; omega
    rw [if_neg h,hw,if_pos (by omega),shr_nat x n (by omega),shl_nat (x / 2 ^ n) n (by omega)]
    have hle:=Nat.div_mul_le_self x (2 ^ n)
    rw [Nat.mod_eq_of_lt (Nat.lt_of_le_of_lt hle hx)]
    have q:=first_ntz (64 - n) n x (by rw [show n+(64 - n)=64 by omega]; exact hx)
    unfold Nx.fst
    rw [Nx.bit_nat,← Nx.firstN_find,q]
    by_cases hz:x / 2 ^ n=0
    · rw [if_pos hz,if_pos (by rw [hz]; simp)]
    · have hp:0 < x / 2 ^ n*2 ^ n:=Nat.mul_pos (Nat.pos_of_ne_zero hz) (Nat.two_pow_pos n)
      rw [if_neg hz,if_neg (by omega)]
      unfold bits_TrailingZeros64.f
      rw [show (2:Nat) ^ 64=18446744073709551616 by decide] at hx
      rw [if_pos ⟨by omega,by omega⟩]
      simp only [Option.bind_some]
      unfold Fld.ntz
      rw [Int.toNat_natCast]
      have:=ntz_shift n (64 - n) (x / 2 ^ n)
      rw [show n+(64 - n)=64 by omega] at this
      rw [this]
theorem Nx.fst_lt {b:Int}{v r:Nat}(h:Nx.fst b v=some r):r < 64:=(Nx.fst_some h).2.1
theorem Nx.soon_f (b0 : Int) (s0 : Bool) (b1 : Int) (s1 : Bool) (b2 : Int) (s2 : Bool) (b3 : Int) (s3 : Bool) (b4 : Int) (s4 : Bool) (h0 : InU b0) (h1 : InU b1) (t : Nat) (ht : t < 1440) :
    next_soon.f b0 s0 b1 s1 b2 s2 b3 s3 b4 s4 (t:Int)=some (match Nx.soonR b0 b1 t with | some u=>((u:Int),true) | none=>(0,false)):=by
  unfold next_soon.f Nx.soonR
  have e1:Int.tmod (t:Int) 60=((t % 60:Nat):Int):=by rw [Int.tmod_eq_emod_of_nonneg (by omega)]; omega
  have e2:wrap64 (Int.tdiv (t:Int) 60)=((t / 60:Nat):Int):=by rw [Int.tdiv_eq_ediv_of_nonneg (by omega),Civ.w64 (by omega) (by omega)]; omega
  have e3:wrap64 (((t / 60:Nat):Int)+1)=((t / 60+1:Nat):Int):=by rw [Civ.w64 (by omega) (by omega)]; omega
  rw [e1,e2,e3,Nx.first_f b0 s0 h0,Nx.first_f b1 s1 h1,Dy.has_f b1 s1 _ h1,Nx.has_nat b1 (t / 60) (by omega),show field_First.f b0 s0 0=_ from Nx.first_f b0 s0 h0 0]
  have hour:∀ h:Nat,Nx.fst b1 (t / 60+1)=some h→wrap64 (wrap64 ((h:Int)*60)+(match Nx.fst b0 0 with | some i=>((i:Int),true) | none=>((0:Int),false)).1)=((h*60+(Nx.fst b0 0).getD 0:Nat):Int):=by
    intro h hh
    have:=Nx.fst_lt hh
    rw [Civ.w64 (x:=(h:Int)*60) (by omega) (by omega)]
    cases hf:Nx.fst b0 0 with
    | some i=>
      have:=Nx.fst_lt hf
      show wrap64 ((h:Int)*60+(i:Int))=((h*60+i:Nat):Int)
      rw [Civ.w64 (by omega) (by omega)]; omega
    | none=>
      show wrap64 ((h:Int)*60+0)=((h*60+0:Nat):Int)
      rw [Civ.w64 (by omega) (by omega)]; omega
  have rest : (if (match Nx.fst b1 (t / 60 + 1) with | some i => ((i : Int), true) | none => ((0 : Int), false)).2 = true then (some (match Nx.fst b0 0 with | some i => ((i : Int), true) | none => ((0 : Int), false))).bind fun u => some (wrap64 (wrap64 ((match Nx.fst b1 (t / 60 + 1) with | some i => ((i : Int), true) | none => ((0 : Int), false)).1 * 60) + u.1), true) else some (0, false)) =
      some (match (match Nx.fst b1 (t / 60+1) with | some h=>some (h*60+(Nx.fst b0 0).getD 0) | none=>(none:Option Nat)) with | some u=>((u:Int),true) | none=>(0,false)):=by
    cases hh:Nx.fst b1 (t / 60+1) with
    | none=>rfl
    | some h=>
      dsimp only
      rw [if_pos rfl,Option.bind_some,hour h hh]
  simp only [Option.bind_some]
  cases hH:Nx.bit b1 (t / 60) with
  | false=>
    have:(if (match Nx.fst b0 (t % 60) with | some i=>((i:Int),true) | none=>((0:Int),false)).2=true then some false else some false)=some false:=by split <;> rfl
    rw [this]
    simp only [Option.bind_some]
    first | exact rest | (rw [if_neg Bool.false_ne_true]; exact rest) | (rw [if_neg Bool.false_ne_true,if_neg Bool.false_ne_true]; exact rest)
  | true=>
    rw [if_pos rfl]
    cases hm:Nx.fst b0 (t % 60) with
    | none=>
      dsimp only
      rw [if_neg (by decide)]
      simp only [Option.bind_some]
      first | exact rest | (rw [if_neg Bool.false_ne_true]; exact rest) | (rw [if_neg Bool.false_ne_true,if_neg Bool.false_ne_true]; exact rest)
    | some m=>
      have hm64:=Nx.fst_lt hm
      dsimp only
      rw [if_pos rfl]
      simp only [Option.bind_some]
      rw [if_pos trivial]
      congr 2
      rw [Civ.w64 (x:=((t / 60:Nat):Int)*60) (by omega) (by omega),Civ.w64 (by omega) (by omega)]
      omega
/-! The last bit. -/
theorem Nx.back_top (x k:Nat)(hx:x % 2 ^ k < 2 ^ 64):Nx.back (fun i=>x.testBit i) k=if x % 2 ^ k=0 then none else some (Lib.bitLen (x % 2 ^ k) - 1):=by
  have hbit:∀ j,j < k→(x % 2 ^ k).testBit j=x.testBit j:=fun j hj=>by rw [Nat.testBit_mod_two_pow,decide_eq_true hj,Bool.true_and]
  have hlt:x % 2 ^ k < 2 ^ k:=Nat.mod_lt _ (Nat.two_pow_pos k)
  generalize x % 2 ^ k=y at hx hbit hlt ⊢
  by_cases h:y=0
  · rw [if_pos h]
    refine Nx.back_no (fun j hj=>?_)
    rw [← hbit j hj,h]; exact Nat.zero_testBit j
  · rw [if_neg h]
    obtain ⟨q1,q2,q3⟩ :=Lib.bitLenAux_bounds 64 y hx h
    have e:Lib.bitLen y=Lib.bitLenAux 64 y:=rfl
    rw [← e] at q1 q2 q3
    generalize Lib.bitLen y=L at q1 q2 q3 ⊢
    obtain ⟨l,rfl⟩:∃ l,L=l+1:=⟨L - 1,by omega⟩
    rw [Nat.add_sub_cancel] at q2 ⊢
    have hlk:l < k:=by
      by_cases c:l < k
      · exact c
      · have:=Nat.pow_le_pow_right (show 0 < 2 by decide) (show k≤l by omega)
        omega
    have htop:∀ j,l < j→j < k→x.testBit j=false:=by
      intro j j1 j2
      rw [← hbit j j2]
      exact Nat.testBit_lt_two_pow (Nat.lt_of_lt_of_le q3 (Nat.pow_le_pow_right (by decide) (by omega)))
    refine Nx.back_is hlk ?_ htop
    rw [← hbit l hlk,Nat.testBit_eq_decide_div_mod_eq]
    have hp:=Nat.two_pow_pos l
    have hd:y / 2 ^ l=1:=by
      rw [Nat.pow_succ] at q3
      have a1:1≤y / 2 ^ l:=(Nat.le_div_iff_mul_le hp).2 (by omega)
      have a2:y / 2 ^ l < 2:=(Nat.div_lt_iff_lt_mul hp).2 (by omega)
      omega
    rw [hd]; rfl
theorem Nx.low_bits (x k:Nat)(hx:x < 2 ^ 64)(hk:k < 64):Go.bits .and .u64 (x:Int) (IntKind.u64.wrap (shl .u64 1 (k:Int) - 1))=((x % 2 ^ k:Nat):Int):=by
  have hp:=Nat.two_pow_pos k
  have hk2:2 ^ k < 2 ^ 64:=Nat.pow_lt_pow_right (by decide) hk
  rw [shl_one k hk,show ((2 ^ k:Nat):Int) - 1=((2 ^ k - 1:Nat):Int) by omega]
  have hw:IntKind.u64.wrap ((2 ^ k - 1:Nat):Int)=((2 ^ k - 1:Nat):Int):=by
    rw [u64w]; rw [show (2:Nat) ^ 64=18446744073709551616 by decide] at hk2; generalize 2 ^ k=P at hk2 hp; omega
  rw [hw,(bits_u64 x (2 ^ k - 1) hx (by omega)).1,Nat.and_two_pow_sub_one_eq_mod]
theorem Nx.last_f (b:Int)(s:Bool)(hb:InU b)(n:Nat)(hn:n≤62):next_last.f b s (n:Int)=some (match Nx.lst b (n+1) with | some i=>((i:Int),true) | none=>(-1,false)):=by
  unfold next_last.f
  have hm:mn (n:Int) 62=n:=by unfold mn; split <;> omega
  have hw:IntKind.u64.wrap (n:Int)=n:=by rw [u64w]; omega
  obtain ⟨x,rfl,hx⟩ :=nat_of b hb
  rw [if_neg (by omega),hm,hw,if_pos (by omega)]
  have hsh:shl .u64 2 (n:Int)=shl .u64 1 ((n+1:Nat):Int):=by
    have hp:2 ^ (n+1) < 2 ^ 64:=Nat.pow_lt_pow_right (by decide) (by omega)
    have hp2:2*2 ^ n=2 ^ (n+1):=by rw [Nat.pow_succ,Nat.mul_comm]
    rw [shl_one (n+1) (by omega),show (2:Int)=((2:Nat):Int) from rfl,shl_nat 2 n (by omega),hp2,Nat.mod_eq_of_lt hp]
  rw [hsh,Nx.low_bits x (n+1) hx (by omega)]
  have hlt:x % 2 ^ (n+1) < 2 ^ 64:=Nat.lt_of_le_of_lt (Nat.mod_le _ _) hx
  have q:=Nx.back_top x (n+1) hlt
  unfold Nx.lst
  rw [Nx.bit_nat,q]
  generalize x % 2 ^ (n+1)=y at hlt ⊢
  unfold bits_Len64.f
  have hlt2:y < 18446744073709551616:=hlt
  rw [if_pos ⟨by omega,by omega⟩]
  simp only [Option.bind_some,Int.toNat_natCast]
  by_cases h:y=0
  · rw [if_pos h,h,show Lib.bitLen 0=0 from rfl,show wrap64 (((0:Nat):Int) - 1)=-1 by rw [Civ.w64 (by omega) (by omega)]; omega]; rfl
  · rw [if_neg h]
    obtain ⟨q1,q2,q3⟩ :=Lib.bitLenAux_bounds 64 y hlt h
    have e:Lib.bitLen y=Lib.bitLenAux 64 y:=rfl
    have hle:=Lib.bitLen_le y 64 (Nat.le_refl _) hlt
    rw [← e] at q1
    have hne:(((y:Nat):Int) != 0)=true:=by simpa using (show (y:Int)≠0 by omega)
    rw [hne,Civ.w64 (by omega) (by omega)]
    congr 2
    omega
theorem Nx.last_neg (b:Int)(s:Bool):next_last.f b s (-1)=some (0,false):=rfl
theorem Nx.lst_lt {b:Int}{v r:Nat}(h:Nx.lst b v=some r):r < v:=(Nx.back_some h).1
theorem Nx.w60 (h m:Nat)(h1:h < 1000)(h2:m < 1000):wrap64 (wrap64 ((h:Int)*60)+(m:Int))=((h*60+m:Nat):Int):=by
  have a:=Civ.w64 (x:=(h:Int)*60) (by omega) (by omega)
  have b:=Civ.w64 (x:=(h:Int)*60+m) (by omega) (by omega)
  exact (congrArg (fun z=>wrap64 (z+(m:Int))) a).trans (b.trans (by omega))
theorem Nx.late_j (b0 : Int) (s0 : Bool) (b1 : Int) (s1 : Bool) (b2 : Int) (s2 : Bool) (b3 : Int) (s3 : Bool) (b4 : Int) (s4 : Bool) (h0 : InU b0) (h1 : InU b1) (hne : Nx.lst b0 60 ≠ none) (t : Nat) (ht : t < 1440) (k : Nat) (c : Int) :
    next_late.j0 (k+1) (t:Int) c false b0 s0 b1 s1 b2 s2 b3 s3 b4 s4=some (match (match Nx.lst b1 (t / 60) with | some h=>some (h*60+(Nx.lst b0 60).getD 0) | none=>(none:Option Nat)) with | some u=>((u:Int),true) | none=>(0,false)):=by
  have e2:wrap64 (Int.tdiv (t:Int) 60)=((t / 60:Nat):Int):=by rw [Int.tdiv_eq_ediv_of_nonneg (by omega),Civ.w64 (by omega) (by omega)]; omega
  rw [next_late.j0,if_neg (by decide),e2]
  have hh24:t / 60 < 24:=by omega
  generalize t / 60=H at hh24 ⊢
  cases H with
  | zero=>
    have e3:wrap64 (((0:Nat):Int) - 1)=-1:=by rw [Civ.w64 (by omega) (by omega)]; omega
    rw [e3,Nx.last_neg]
    rfl
  | succ H=>
    have e3:wrap64 (((H+1:Nat):Int) - 1)=(H:Int):=by rw [Civ.w64 (by omega) (by omega)]; omega
    have e4:next_last.f b0 s0 59=some (match Nx.lst b0 60 with | some i=>((i:Int),true) | none=>(-1,false)):=Nx.last_f b0 s0 h0 59 (by omega)
    rw [e3,Nx.last_f b1 s1 h1 H (by omega),e4]
    cases hh:Nx.lst b1 (H+1) with
    | none=>rfl
    | some h=>
      have:=Nx.lst_lt hh
      cases hm:Nx.lst b0 60 with
      | none=>exact absurd hm hne
      | some m=>
        have:=Nx.lst_lt hm
        have e5:=Nx.w60 h m (by omega) (by omega)
        simp only [Option.bind_some,Option.getD_some,if_true]
        rw [e5]
theorem Nx.late_f (b0 : Int) (s0 : Bool) (b1 : Int) (s1 : Bool) (b2 : Int) (s2 : Bool) (b3 : Int) (s3 : Bool) (b4 : Int) (s4 : Bool) (h0 : InU b0) (h1 : InU b1) (hne : Nx.lst b0 60 ≠ none) (t : Nat) (ht : t < 1440) (k : Nat) :
    next_late.f (k+1) b0 s0 b1 s1 b2 s2 b3 s3 b4 s4 (t:Int)=some (match Nx.lateR b0 b1 t with | some u=>((u:Int),true) | none=>(0,false)):=by
  have rest:=fun c=>Nx.late_j b0 s0 b1 s1 b2 s2 b3 s3 b4 s4 h0 h1 hne t ht k c
  unfold next_late.f Nx.lateR
  have e1:Int.tmod (t:Int) 60=((t % 60:Nat):Int):=by rw [Int.tmod_eq_emod_of_nonneg (by omega)]; omega
  have e2:wrap64 (Int.tdiv (t:Int) 60)=((t / 60:Nat):Int):=by rw [Int.tdiv_eq_ediv_of_nonneg (by omega),Civ.w64 (by omega) (by omega)]; omega
  rw [e1,Nx.last_f b0 s0 h0 _ (by omega)]
  simp only [Option.bind_some]
  cases hm:Nx.lst b0 (t % 60+1) with
  | none=>
    dsimp only
    rw [if_neg (by decide),rest]
    cases Nx.bit b1 (t / 60) <;> rfl
  | some m=>
    dsimp only
    rw [if_pos rfl,e2,Dy.has_f b1 s1 _ h1,Nx.has_nat b1 (t / 60) (by omega)]
    simp only [Option.bind_some]
    cases hH:Nx.bit b1 (t / 60) with
    | false=>rw [rest]; rfl
    | true=>
      have:=Nx.lst_lt hm
      rw [next_late.j0,if_pos rfl,if_pos rfl,e2,Nx.w60 (t / 60) m (by omega) (by omega)]
/-! The program's months and days, against the plain ones. -/
theorem Nx.chk_bits (b : Int) (s : Bool) (kind : Int) (lo hi : Nat) (hk : (Lex.limits kind).2.2 = 0) (hlo : (Lex.limits kind).1 = lo) (hhi : top kind = hi) (h1 : lo ≤ hi) (h2 : hi ≤ 59) (hb : InU b) (h : field_Check.f b s kind = some 0) :
    (∀ i,Nx.bit b i=true→lo≤i∧i≤hi)∧∃ i,Nx.bit b i=true:=by
  rw [check_f b s kind lo hi hk hlo hhi h1 h2] at h
  by_cases hz:b=0
  · rw [if_pos hz] at h; exact absurd (Option.some.inj h) (by decide)
  rw [if_neg hz] at h
  by_cases ha:Go.bits .andNot .u64 b (evB lo hi)=0
  rotate_left
  · rw [if_neg ha] at h; exact absurd (Option.some.inj h) (by decide)
  have hev:=(andNot_zero b (evB lo hi) hb (ev_in lo hi (by omega))).1 ha
  have hall:∀ i,Nx.bit b i=true→lo≤i∧i≤hi:=by
    intro i hi'
    have hi64:i < 64:=by
      by_cases c:i < 64
      · exact c
      · have:=bit_big hb (show 64≤i by omega)
        rw [show bitAt b i=Nx.bit b i from rfl,hi'] at this; cases this
    have:=hev i hi64 hi'
    rw [bit_ev lo hi i (by omega)] at this
    simp only [Bool.and_eq_true,decide_eq_true_eq] at this
    exact this
  refine ⟨hall,?_⟩
  by_cases c:∃ i,Nx.bit b i=true
  · exact c
  · exfalso
    refine hz (eq_of_bits hb (show InU 0 from ⟨by decide,by decide⟩) (fun i _=>?_))
    rw [bit_zero]
    cases hi':bitAt b i with
    | false=>rfl
    | true=>exact absurd ⟨i,hi'⟩ c
structure Nx.Fit (b0 b1:Int):Prop where
  m60:∀ i,Nx.bit b0 i=true→i < 60
  mne:∃ i,Nx.bit b0 i=true
  h24:∀ i,Nx.bit b1 i=true→i < 24
theorem Nx.fit_of {b0:Int}{s0:Bool}{b1:Int}{s1:Bool}(h0:InU b0)(h1:InU b1)(q0:field_Check.f b0 s0 0=some 0)(q1:field_Check.f b1 s1 1=some 0):Nx.Fit b0 b1:=by
  obtain ⟨a1,a2⟩ :=Nx.chk_bits b0 s0 0 0 59 rfl rfl rfl (by decide) (by decide) h0 q0
  obtain ⟨c1,c2⟩ :=Nx.chk_bits b1 s1 1 0 23 rfl rfl rfl (by decide) (by decide) h1 q1
  exact ⟨fun i h=>by have:=a1 i h; omega,a2,fun i h=>by have:=c1 i h; omega⟩
theorem Nx.Fit.lst {b0 b1:Int}(h:Nx.Fit b0 b1):Nx.lst b0 60≠none:=by
  intro hn
  obtain ⟨i,hi⟩ :=h.mne
  have:=Nx.back_none hn i (h.m60 i hi)
  rw [hi] at this; cases this
theorem Nx.mbit (N d:Nat)(hN:N < 2 ^ 32)(h:d < 32):Go.bits .and .u32 ((N:Int) / 2 ^ d) 1=if N.testBit d=true then 1 else 0:=by
  have e:(N:Int) / 2 ^ d=shr .u32 (N:Int) (d:Int):=by
    unfold shr
    rw [show min ((d:Int).toNat) (IntKind.bits .u32)=d by simp [IntKind.bits]; omega]
  rw [e,bit32 N d hN h]
theorem Nx.dayW_scan {so : Int → Int × Bool} {b0 b1 : Int} (hS : ∀ t, t < 1440 → Nx.soonR b0 b1 t = Nx.find (Nx.timB b0 b1) (1440 - t) t) (hso : ∀ t : Nat, t < 1440 → so (t : Int) = match Nx.soonR b0 b1 t with | some u => ((u : Int), true) | none => (0, false))
    (k N F cd ct:Nat) (hN:N < 2 ^ 32) (hF:F≤376200) (hct:ct < 1440):∀ (f d:Nat),1≤d→d+f≤32→Nx.dayW so (cd:Int) (ct:Int) (k,(F:Int),(N:Int)) f (d:Int)=(Nx.dayScan b0 b1 N F (decide (k=0)) cd ct f d).map (fun r:Nat=>(r:Int))
  | 0,d,_,_=>rfl
  | f+1,d,h1,hd=>by
    have ih:=Nx.dayW_scan hS hso k N F cd ct hN hF hct f (d+1) (by omega) (by omega)
    unfold Nx.dayW Nx.dayScan
    dsimp only
    rw [Int.toNat_natCast,Nx.mbit N d hN (by omega),show (d:Int)+1=((d+1:Nat):Int) by omega,ih]
    have hc:((if N.testBit d=true then (1:Int) else 0)=0∨((k:Int)=0∧(d:Int) < cd))↔(N.testBit d=false∨(decide (k=0)=true∧d < cd)):=by
      constructor
      · rintro (h | ⟨h,h'⟩)
        · left
          cases hb:N.testBit d with
          | false=>rfl
          | true=>rw [hb,if_pos rfl] at h; exact absurd h (by decide)
        · exact .inr ⟨by simpa using h,by omega⟩
      · rintro (h | ⟨h,h'⟩)
        · left; rw [h]; rfl
        · exact .inr ⟨by simpa using h,by omega⟩
    by_cases c:N.testBit d=false∨(decide (k=0)=true∧d < cd)
    · rw [if_pos (hc.2 c),if_pos c]
    · rw [if_neg (fun h=>c (hc.1 h)),if_neg c]
      have ht:(if (k:Int)=0∧(d:Int)=cd then (ct:Int) else 0)=((if decide (k=0)=true∧d=cd then ct else 0:Nat):Int):=by
        by_cases q:k=0∧d=cd
        · rw [if_pos ⟨by omega,by omega⟩,if_pos ⟨by simpa using q.1,q.2⟩]
        · rw [if_neg (by omega),if_neg (by simpa using q)]; rfl
      rw [ht]
      have hlt:(if decide (k=0)=true∧d=cd then ct else 0) < 1440:=by split <;> omega
      generalize (if decide (k=0)=true∧d=cd then ct else 0)=t at hlt ⊢
      rw [hso t hlt]
      cases hr:Nx.soonR b0 b1 t with
      | none=>
        dsimp only
        rw [if_neg (by decide)]
      | some u=>
        dsimp only
        rw [if_pos rfl]
        have hu:u < 1440:=by
          rw [hS t hlt] at hr
          have:=(Nx.find_some hr).2.1
          omega
        show some _=some _
        congr 1
        rw [Civ.w64 (x:=(F:Int)+d) (by omega) (by omega),Civ.w64 (x:=(F:Int)+d - 1) (by omega) (by omega),Civ.w64 (x:=((F:Int)+d - 1)*1440) (by omega) (by omega),Civ.w64 (by omega) (by omega)]
        dsimp only
        omega
theorem Nx.dayV_back {so : Int → Int × Bool} {b0 b1 : Int} (hS : ∀ t, t < 1440 → Nx.lateR b0 b1 t = Nx.back (Nx.timB b0 b1) (t + 1)) (hso : ∀ t : Nat, t < 1440 → so (t : Int) = match Nx.lateR b0 b1 t with | some u => ((u : Int), true) | none => (0, false))
    (k N F cd ct:Nat) (hN:N < 2 ^ 32) (hF:F≤376200) (hct:ct < 1440):∀ (d:Nat),d≤31→Nx.dayV so (cd:Int) (ct:Int) (k,(F:Int),(N:Int)) d (d:Int)=(Nx.dayBack b0 b1 N F (decide (k=0)) cd ct d).map (fun r:Nat=>(r:Int))
  | 0,_=>rfl
  | d+1,hd=>by
    have ih:=Nx.dayV_back hS hso k N F cd ct hN hF hct d (by omega)
    unfold Nx.dayV Nx.dayBack
    dsimp only
    rw [Int.toNat_natCast,Nx.mbit N (d+1) hN (by omega),show ((d+1:Nat):Int) - 1=(d:Int) by omega,ih]
    have hc:((if N.testBit (d+1)=true then (1:Int) else 0)=0∨((k:Int)=0∧(cd:Int) < ((d+1:Nat):Int)))↔(N.testBit (d+1)=false∨(decide (k=0)=true∧cd < d+1)):=by
      constructor
      · rintro (h | ⟨h,h'⟩)
        · left
          cases hb:N.testBit (d+1) with
          | false=>rfl
          | true=>rw [hb,if_pos rfl] at h; exact absurd h (by decide)
        · exact .inr ⟨by simpa using h,by omega⟩
      · rintro (h | ⟨h,h'⟩)
        · left; rw [h]; rfl
        · exact .inr ⟨by simpa using h,by omega⟩
    by_cases c:N.testBit (d+1)=false∨(decide (k=0)=true∧cd < d+1)
    · rw [if_pos (hc.2 c),if_pos c]
    · rw [if_neg (fun h=>c (hc.1 h)),if_neg c]
      have ht:(if (k:Int)=0∧((d+1:Nat):Int)=cd then (ct:Int) else 1439)=((if decide (k=0)=true∧d+1=cd then ct else 1439:Nat):Int):=by
        by_cases q:k=0∧d+1=cd
        · rw [if_pos ⟨by omega,by omega⟩,if_pos ⟨by simpa using q.1,q.2⟩]
        · rw [if_neg (by omega),if_neg (by simpa using q)]; rfl
      rw [ht]
      have hlt:(if decide (k=0)=true∧d+1=cd then ct else 1439) < 1440:=by split <;> omega
      generalize (if decide (k=0)=true∧d+1=cd then ct else 1439)=t at hlt ⊢
      rw [hso t hlt]
      cases hr:Nx.lateR b0 b1 t with
      | none=>
        dsimp only
        rw [if_neg (by decide)]
      | some u=>
        dsimp only
        rw [if_pos rfl]
        have hu:u < 1440:=by
          rw [hS t hlt] at hr
          have:=(Nx.back_some hr).1
          omega
        show some _=some _
        congr 1
        rw [Civ.w64 (x:=(F:Int)+((d+1:Nat):Int)) (by omega) (by omega),Civ.w64 (x:=(F:Int)+((d+1:Nat):Int) - 1) (by omega) (by omega),Civ.w64 (x:=((F:Int)+((d+1:Nat):Int) - 1)*1440) (by omega) (by omega),Civ.w64 (by omega) (by omega)]
        dsimp only
        omega
theorem Nx.findSome_map {α:Type}(g:α→Option Int)(h:α→Option Nat):∀ (l:List α),(∀ x ∈ l,g x=(h x).map (fun r:Nat=>(r:Int)))→l.findSome? g=(l.findSome? h).map (fun r:Nat=>(r:Int))
  | [],_=>rfl
  | x :: l,e=>by
    rw [List.findSome?_cons,List.findSome?_cons,e x (List.mem_cons_self ..)]
    cases h x with
    | some r=>rfl
    | none=>exact Nx.findSome_map g h l (fun y hy=>e y (List.mem_cons_of_mem _ hy))
theorem Nx.mons_mem (b2:Int)(s2:Bool)(b3 b4:Int)(s4:Bool)(by_:Int):∀ (f:Nat) (y m:Int) (n:Nat),∀ x ∈ Nx.mons (Dy.mask false b2 s2 b3 b4 s4) by_ f y m n,∃ F N:Nat,x=(x.1,(F:Int),(N:Int))∧F≤376199∧N < 2 ^ 32
  | 0,_,_,_,x,hx=>by cases hx
  | f+1,y,m,n,x,hx=>by
    by_cases hy:1970≤y∧y≤2999
    · rw [Nx.mons_step _ by_ f y m n hy _ _ rfl rfl] at hx
      generalize (if m < 1∨12 < m then y+by_ else y)=y' at hx
      generalize (if m < 1∨12 < m then (m+11) % 12+1 else m)=m' at hx
      split at hx
      · rcases List.mem_cons.1 hx with h | h
        · obtain ⟨N,hN,hlt,-,-⟩ :=mask_bits false b2 s2 b3 b4 s4 y' m'
          have hb:=Civ.day_bd y' m' 1
          refine ⟨(Civ.day y' m' 1).1.toNat,N,?_,by omega,hlt⟩
          rw [h,hN]
          dsimp only
          rw [Int.toNat_of_nonneg hb.1]
        · exact Nx.mons_mem b2 s2 b3 b4 s4 by_ f y' (m'+by_) (n+1) x h
      · exact Nx.mons_mem b2 s2 b3 b4 s4 by_ f y' (m'+by_) (n+1) x hx
    · rw [Nx.mons_end _ _ _ _ _ _ hy] at hx
      cases hx
/-- What a minute's calendar tells. -/
theorem Nx.of_is {s:Nat}(h:s < 541728000):∃ y m:Int,∃ cd:Nat,Civ.of (s:Int)=(y,m,(cd:Int),(s:Int) / 60 % 24,(s:Int) % 60,(((s:Int) / 1440)+4) % 7,0)∧1970≤y∧y≤2999∧1≤m∧m≤12∧1≤cd∧(cd:Int)≤Civ.len y m∧(s:Int)=(Civ.num y m 1+cd - 1)*1440+((s % 1440:Nat):Int)∧Civ.num y m cd=(s:Int) / 1440:=by
  obtain ⟨ok,hn⟩ :=Civ.date_ok (d:=(s:Int) / 1440) (by omega) (by omega)
  obtain ⟨q1,q2,q3,q4,q5,q6⟩ :=ok
  refine ⟨Civ.yr ((s:Int) / 1440),1+(Civ.mi ((s:Int) / 1440):Int),(Civ.dy ((s:Int) / 1440)).toNat,?_,q1,q2,q3,q4,by omega,by omega,?_,?_⟩
  · unfold Civ.of
    rw [if_neg (by omega),Int.toNat_of_nonneg (by omega)]
  · have e : Civ.num (Civ.yr ((s : Int) / 1440)) (1 + (Civ.mi ((s : Int) / 1440) : Int)) 1 + Civ.dy ((s : Int) / 1440) - 1 = (s : Int) / 1440 := by
      have hn':=hn
      unfold Civ.num at hn' ⊢
      rw [show ((1+(Civ.mi ((s:Int) / 1440):Int)) - 1).toNat=Civ.mi ((s:Int) / 1440) by omega] at hn' ⊢
      omega
    rw [Int.toNat_of_nonneg (by omega),e]
    omega
  · rw [Int.toNat_of_nonneg (by omega)]
    exact hn
abbrev Nx.at2 (b0 b1 b2:Int)(s2:Bool)(b3 b4:Int)(s4:Bool):Nat→Bool:=fun t=>Nx.dayB b2 s2 b3 b4 s4 ((t / 1440:Nat):Int) && Nx.timB b0 b1 (t % 1440)
theorem Nx.next_is {b0 : Int} {s0 : Bool} {b1 : Int} {s1 : Bool} {b2 : Int} {s2 : Bool} {b3 : Int} {s3 : Bool} {b4 : Int} {s4 : Bool} (h0 : InU b0) (h1 : InU b1) (h2 : InU b2) (h3 : InU b3) (h4 : InU b4) {ob : Bool} (A : day_odd.f b0 s0 b1 s1 b2 s2 b3 s3 b4 s4 = some ob) (m : Int) :
    next_Next.f b0 s0 b1 s1 b2 s2 b3 s3 b4 s4 m=some (Nx.next ob (Nx.at2 b0 b1 b2 s2 b3 b4 s4) m):=by
  unfold next_Next.f
  rw [if_pos (okS_of h0 h1 h2 h3 h4),show next_odd.f b0 s0 b1 s1 b2 s2 b3 s3 b4 s4=some ob from A]
  simp only [Option.bind_some]
  congr 1
  unfold Nx.next
  cases ob with
  | true=>rw [if_pos rfl,if_pos rfl]
  | false=>
    rw [if_neg Bool.false_ne_true,if_neg Bool.false_ne_true]
    by_cases hl:541727999≤m
    · rw [if_pos hl,if_pos hl]
    rw [if_neg hl,if_neg hl]
    obtain ⟨ob',A',hq⟩ :=odd_is b0 s0 b1 s1 b2 s2 b3 s3 b4 s4
    rw [A] at A'
    obtain ⟨q0,q1,-⟩ :=hq (Option.some.inj A').symm
    have hfit:=Nx.fit_of h0 h1 q0 q1
    have hS:∀ t,t < 1440→Nx.soonR b0 b1 t=Nx.find (Nx.timB b0 b1) (1440 - t) t:=fun t ht=>Nx.soon_is hfit.m60 hfit.mne hfit.h24 ht
    have hso:∀ t:Nat,t < 1440→(fun t=>(next_soon.f b0 s0 b1 s1 b2 s2 b3 s3 b4 s4 t).getD (0,false)) (t:Int)=match Nx.soonR b0 b1 t with | some u=>((u:Int),true) | none=>(0,false):=by
      intro t ht
      dsimp only
      rw [Nx.soon_f b0 s0 b1 s1 b2 s2 b3 s3 b4 s4 h0 h1 t ht]
      rfl
    generalize (fun t=>(next_soon.f b0 s0 b1 s1 b2 s2 b3 s3 b4 s4 t).getD (0,false))=so at hso ⊢
    obtain ⟨s,hs⟩:∃ s:Nat,(max m (-1)+1).toNat=s:=⟨_,rfl⟩
    have hs2:mx m (-1)+1=(s:Int):=by unfold mx; split <;> omega
    have hlt:s < 541728000:=by omega
    obtain ⟨y,mo,cd,hof,y1,y2,m1,m2,d1,d2,hse,-⟩ :=Nx.of_is hlt
    unfold Nx.nextS
    rw [hs,hs2,hof]
    dsimp only
    have hup:=Nx.ups_spec (b0:=b0) (b1:=b1) (b2:=b2) (s2:=s2) (b3:=b3) (b4:=b4) (s4:=s4) hS cd (s % 1440) s (by omega) d1 20000 y mo 0 s y1 y2 m1 (by omega) (by omega) (fun _=>⟨m2,d2,hse⟩) (by rw [if_pos rfl])
    rw [Nx.Res.find (by omega) hup,Nx.findSome_map _ (Nx.scanUp b0 b1 cd (s % 1440)) _ (fun x hx=>?_)]
    · cases (Nx.mons (Dy.mask false b2 s2 b3 b4 s4) 1 20000 y mo 0).findSome? (Nx.scanUp b0 b1 cd (s % 1440)) <;> rfl
    · obtain ⟨F,N,hx,hF,hN⟩ :=Nx.mons_mem b2 s2 b3 b4 s4 1 20000 y mo 0 x hx
      have:=Nx.dayW_scan hS hso x.1 N F cd (s % 1440) hN (by omega) (by omega) 31 1 (by omega) (by omega)
      rw [hx]
      unfold Nx.scanUp
      dsimp only
      rw [Int.toNat_natCast,Int.toNat_natCast,← this]
      rfl
theorem Nx.prev_is {b0 : Int} {s0 : Bool} {b1 : Int} {s1 : Bool} {b2 : Int} {s2 : Bool} {b3 : Int} {s3 : Bool} {b4 : Int} {s4 : Bool} (h0 : InU b0) (h1 : InU b1) (h2 : InU b2) (h3 : InU b3) (h4 : InU b4) {ob : Bool} (A : day_odd.f b0 s0 b1 s1 b2 s2 b3 s3 b4 s4 = some ob) (m : Int) :
    next_Prev.f b0 s0 b1 s1 b2 s2 b3 s3 b4 s4 m=some (Nx.prev ob (Nx.at2 b0 b1 b2 s2 b3 b4 s4) m):=by
  unfold next_Prev.f
  rw [if_pos (okS_of h0 h1 h2 h3 h4),show next_odd.f b0 s0 b1 s1 b2 s2 b3 s3 b4 s4=some ob from A]
  simp only [Option.bind_some]
  congr 1
  unfold Nx.prev
  cases ob with
  | true=>rw [if_pos rfl,if_pos rfl]
  | false=>
    rw [if_neg Bool.false_ne_true,if_neg Bool.false_ne_true]
    by_cases hl:m≤0
    · rw [if_pos hl,if_pos hl]
    rw [if_neg hl,if_neg hl]
    obtain ⟨ob',A',hq⟩ :=odd_is b0 s0 b1 s1 b2 s2 b3 s3 b4 s4
    rw [A] at A'
    obtain ⟨q0,q1,-⟩ :=hq (Option.some.inj A').symm
    have hfit:=Nx.fit_of h0 h1 q0 q1
    have hS:∀ t,t < 1440→Nx.lateR b0 b1 t=Nx.back (Nx.timB b0 b1) (t+1):=fun t ht=>Nx.late_is hfit.m60 hfit.mne ht
    have hso:∀ t:Nat,t < 1440→(fun t=>(next_late.f 100 b0 s0 b1 s1 b2 s2 b3 s3 b4 s4 t).getD (0,false)) (t:Int)=match Nx.lateR b0 b1 t with | some u=>((u:Int),true) | none=>(0,false):=by
      intro t ht
      dsimp only
      rw [show next_late.f 100 b0 s0 b1 s1 b2 s2 b3 s3 b4 s4 (t:Int)=_ from Nx.late_f b0 s0 b1 s1 b2 s2 b3 s3 b4 s4 h0 h1 hfit.lst t ht 99]
      rfl
    generalize (fun t=>(next_late.f 100 b0 s0 b1 s1 b2 s2 b3 s3 b4 s4 t).getD (0,false))=so at hso ⊢
    obtain ⟨s,hs⟩:∃ s:Nat,(min m 541728000).toNat=s+1:=⟨(min m 541728000).toNat - 1,by omega⟩
    have hs2:mn m 541728000 - 1=(s:Int):=by unfold mn; split <;> omega
    have hlt:s < 541728000:=by omega
    obtain ⟨y,mo,cd,hof,y1,y2,m1,m2,d1,d2,hse,-⟩ :=Nx.of_is hlt
    unfold Nx.prevS
    rw [hs,hs2,hof]
    dsimp only
    have hup:=Nx.downs_spec (b0:=b0) (b1:=b1) (b2:=b2) (s2:=s2) (b3:=b3) (b4:=b4) (s4:=s4) hS cd (s % 1440) s (by omega) d1 20000 y mo 0 (s+1) y1 y2 (by omega) m2 (by omega) (fun _=>⟨m1,d2,hse⟩) (by rw [if_pos rfl]; omega)
    rw [Nx.ResB.back hup,Nx.findSome_map _ (Nx.scanDn b0 b1 cd (s % 1440)) _ (fun x hx=>?_)]
    · cases (Nx.mons (Dy.mask false b2 s2 b3 b4 s4) (-1) 20000 y mo 0).findSome? (Nx.scanDn b0 b1 cd (s % 1440)) <;> rfl
    · obtain ⟨F,N,hx,hF,hN⟩ :=Nx.mons_mem b2 s2 b3 b4 s4 (-1) 20000 y mo 0 x hx
      have:=Nx.dayV_back hS hso x.1 N F cd (s % 1440) hN (by omega) (by omega) 31 (by omega)
      rw [hx]
      unfold Nx.scanDn
      dsimp only
      rw [Int.toNat_natCast,Int.toNat_natCast,← this]
      rfl
/-! How many times of a day, of a month and of a stretch match, as the program counts. -/
theorem Nx.cnt0 (p:Nat→Bool)(n i:Nat)(h:∀ j,i≤j→j < i+n→p j=false):Nx.cnt p n i=0:=Nx.cnt_zero.2 h
theorem Nx.popN_cnt (n:Nat):∀ (d v:Nat),popN d (n / 2 ^ v)=Nx.cnt (fun i=>n.testBit i) d v
  | 0,v=>rfl
  | d+1,v=>by
    unfold popN Nx.cnt
    have ht:n.testBit v=decide (n / 2 ^ v % 2=1):=Nat.testBit_eq_decide_div_mod_eq
    have hq:n / 2 ^ (v+1)=n / 2 ^ v / 2:=by rw [Nat.pow_succ,Nat.div_div_eq_div_mul]
    rw [← Nx.popN_cnt n d (v+1),hq,ht]
    generalize n / 2 ^ v=q
    by_cases h:q % 2=1
    · rw [decide_eq_true h,h]; rfl
    · rw [decide_eq_false h,show q % 2=0 by omega]; rfl
theorem Nx.popA_cnt (n:Nat):∀ (d v:Nat),Lib.popAux d (n / 2 ^ v)=Nx.cnt (fun i=>n.testBit i) d v
  | 0,v=>rfl
  | d+1,v=>by
    unfold Lib.popAux Nx.cnt
    have ht:n.testBit v=decide (n / 2 ^ v % 2=1):=Nat.testBit_eq_decide_div_mod_eq
    have hq:n / 2 ^ (v+1)=n / 2 ^ v / 2:=by rw [Nat.pow_succ,Nat.div_div_eq_div_mul]
    rw [← Nx.popA_cnt n d (v+1),hq,ht]
    generalize n / 2 ^ v=q
    by_cases h:q % 2=1
    · rw [decide_eq_true h,h]; rfl
    · rw [decide_eq_false h,show q % 2=0 by omega]; rfl
theorem Nx.ones_pop (n:Nat)(h:n < 2 ^ 32):Lib.onesCount n=Nx.pop n:=by
  have q:=Nx.popA_cnt n 64 0
  rw [Nat.pow_zero,Nat.div_one] at q
  unfold Lib.onesCount Nx.pop
  rw [q,show 64=32+32 from rfl,Nx.cnt_add,Nx.cnt0 _ 32 (0+32) (fun j h1 h2=>Nat.testBit_lt_two_pow (Nat.lt_of_lt_of_le h (Nat.pow_le_pow_right (by decide) (by omega)))),Nat.add_zero]
theorem Nx.popN_bits {b:Int}(hb:InU b)(L:Nat)(hL:L≤64)(h:∀ i,Nx.bit b i=true→i < L):popN 64 b.toNat=Nx.cnt (Nx.bit b) L 0:=by
  have q:=Nx.popN_cnt b.toNat 64 0
  rw [Nat.pow_zero,Nat.div_one] at q
  have e:Nx.cnt (Nx.bit b) 64 0=Nx.cnt (fun i=>b.toNat.testBit i) 64 0:=rfl
  rw [q,← e,show 64=L+(64 - L) by omega,Nx.cnt_add,Nx.cnt0 _ (64 - L) (0+L) (fun j h1 h2=>by
    cases hj:Nx.bit b j with
    | false=>rfl
    | true=>have:=h j hj; omega),Nat.add_zero]
theorem Nx.tim_hour (b0 b1:Int)(h:Nat):∀ (k u:Nat),u+k≤60→Nx.cnt (Nx.timB b0 b1) k (h*60+u)=if Nx.bit b1 h=true then Nx.cnt (Nx.bit b0) k u else 0
  | 0,u,_=>by simp [Nx.cnt]
  | k+1,u,hk=>by
    simp only [Nx.cnt]
    have e:Nx.timB b0 b1 (h*60+u)=(Nx.bit b1 h && Nx.bit b0 u):=by
      unfold Nx.timB
      rw [show (h*60+u) / 60=h by omega,show (h*60+u) % 60=u by omega]
    rw [show h*60+u+1=h*60+(u+1) by omega,Nx.tim_hour b0 b1 h k (u+1) (by omega),e]
    cases Nx.bit b1 h with
    | true=>rw [if_pos rfl,if_pos rfl,Bool.true_and]
    | false=>rw [if_neg (by decide),if_neg (by decide),Bool.false_and]; rfl
theorem Nx.tim_hours (b0 b1:Int):∀ (n h:Nat),Nx.cnt (Nx.timB b0 b1) (n*60) (h*60)=Nx.cnt (Nx.bit b1) n h*Nx.cnt (Nx.bit b0) 60 0
  | 0,h=>by rw [Nat.zero_mul]; exact (Nat.zero_mul _).symm
  | n+1,h=>by
    have ih:=Nx.tim_hours b0 b1 n (h+1)
    have e:=Nx.tim_hour b0 b1 h 60 0 (by omega)
    rw [Nat.add_zero] at e
    rw [show (n+1)*60=60+n*60 by omega,Nx.cnt_add,show h*60+60=(h+1)*60 by omega,ih,e]
    generalize Nx.cnt (Nx.bit b0) 60 0=W
    show _=((Nx.bit b1 h).toNat+Nx.cnt (Nx.bit b1) n (h+1))*W
    cases Nx.bit b1 h with
    | true=>rw [if_pos rfl,Nat.add_mul]; show _=1*_+_; rw [Nat.one_mul]
    | false=>rw [if_neg (by decide),Nat.add_mul]; show _=0*_+_; rw [Nat.zero_mul]
/-- How many times of a day match. -/
theorem Nx.day_count {b0 b1:Int}(h0:InU b0)(h1:InU b1)(hf:Nx.Fit b0 b1):Nx.cnt (Nx.timB b0 b1) 1440 0=popN 64 b1.toNat*popN 64 b0.toNat:=by
  have:=Nx.tim_hours b0 b1 24 0
  rw [show 24*60=1440 from rfl,Nat.zero_mul] at this
  rw [this,Nx.popN_bits h0 60 (by omega) hf.m60,Nx.popN_bits h1 24 (by omega) hf.h24]
theorem Nx.tim_none {b0 b1:Int}{v w:Nat}(h:∀ j,v≤j→j < w→Nx.bit b1 j=false):∀ (n i:Nat),v*60≤i→i+n≤w*60→Nx.cnt (Nx.timB b0 b1) n i=0:=by
  intro n i h1 h2
  refine Nx.cnt_zero.2 (fun j j1 j2=>?_)
  unfold Nx.timB
  rw [h (j / 60) (by omega) (by omega)]
  rfl
theorem Nx.low_ones (x k:Nat)(hx:x < 2 ^ 64)(hk:k < 64):popN 64 (x % 2 ^ k)=Nx.cnt (fun i=>x.testBit i) k 0:=by
  have q:=Nx.popN_cnt (x % 2 ^ k) 64 0
  rw [Nat.pow_zero,Nat.div_one] at q
  rw [q,show 64=k+(64 - k) by omega,Nx.cnt_add,Nx.cnt0 _ (64 - k) (0+k) (fun j h1 h2=>by rw [Nat.testBit_mod_two_pow,decide_eq_false (by omega)]; rfl),Nat.add_zero]
  exact Nx.cnt_congr (fun j h1 h2=>by rw [Nat.testBit_mod_two_pow,decide_eq_true (by omega)]; rfl)
theorem Nx.ahead_l {b0 b1 : Int} (s0 s1 : Bool) (b2 : Int) (s2 : Bool) (b3 : Int) (s3 : Bool) (b4 : Int) (s4 : Bool) (h0 : InU b0) (h1 : InU b1) (hf : Nx.Fit b0 b1) (t : Nat) (ht : t < 1440) :
    ∀ (e k v:Nat),64≤v+e→2*e+2≤k→next_ahead.l0 k (t:Int) ((Nx.cnt (Nx.timB b0 b1) (min t (v*60)) 0:Nat):Int) ((Nx.cnt (Nx.bit b0) 60 0:Nat):Int) (match Nx.fst b1 v with | some i=>((i:Int),true) | none=>(0,false)).1 (match Nx.fst b1 v with | some i=>((i:Int),true) | none=>((0:Int),false)).2 b0 s0 b1 s1 b2 s2 b3 s3 b4 s4=some ((Nx.cnt (Nx.timB b0 b1) t 0:Nat):Int):=by
  intro e
  induction e with
  | zero=>
    intro k v hv hk
    obtain ⟨k,rfl⟩:∃ j,k=j+1+1:=⟨k - 2,by omega⟩
    rw [show Nx.fst b1 v=none by unfold Nx.fst; rw [show 64 - v=0 by omega]; rfl]
    dsimp only
    rw [next_ahead.l0,if_neg (by decide),next_ahead.j1,if_neg (by decide),show min t (v*60)=t by omega]
  | succ e ih=>
    intro k v hv hk
    obtain ⟨k,rfl⟩:∃ j,k=j+1+1:=⟨k - 2,by omega⟩
    cases hh:Nx.fst b1 v with
    | none=>
      dsimp only
      rw [next_ahead.l0,if_neg (by decide),next_ahead.j1,if_neg (by decide)]
      congr 2
      by_cases c:t≤v*60
      · rw [show min t (v*60)=t by omega]
      · have q:=Nx.fst_none hh
        have e1:=Nx.cnt_add (Nx.timB b0 b1) (v*60) (t - v*60) 0
        rw [show v*60+(t - v*60)=t by omega,Nat.zero_add,Nx.tim_none (v:=v) (w:=64) q (t - v*60) (v*60) (by omega) (by omega),Nat.add_zero] at e1
        rw [show min t (v*60)=v*60 by omega,e1]
    | some h=>
      obtain ⟨q1,q2,q3,q4⟩ :=Nx.fst_some hh
      have h24:=hf.h24 h q3
      have hAv:Nx.cnt (Nx.timB b0 b1) (min t (v*60)) 0=Nx.cnt (Nx.timB b0 b1) (min t (h*60)) 0:=by
        have e1:min t (h*60)=min t (v*60)+(min t (h*60) - min t (v*60)):=by omega
        rw [e1,Nx.cnt_add,Nat.zero_add]
        by_cases c:t≤v*60
        · rw [show min t (h*60) - min t (v*60)=0 by omega,Nx.cnt_nil]; rfl
        · rw [Nx.tim_none (v:=v) (w:=h) q4 (min t (h*60) - min t (v*60)) (min t (v*60)) (by omega) (by omega)]; rfl
      have hle:=Nx.cnt_le (Nx.timB b0 b1) (min t (h*60)) 0
      rw [hAv]
      dsimp only
      rw [next_ahead.l0,if_pos rfl]
      rw [Civ.w64 (x:=(h:Int)*60) (by omega) (by omega)]
      by_cases c:h*60 < t
      · rw [decide_eq_true (show (h:Int)*60 < (t:Int) by omega),next_ahead.j1,if_pos rfl,Civ.w64 (x:=(h:Int)+1) (by omega) (by omega),Civ.w64 (x:=((h:Int)+1)*60) (by omega) (by omega),show (h:Int)+1=((h+1:Nat):Int) by omega,Nx.first_f b1 s1 h1]
        have hm:min t (h*60)=h*60:=by omega
        rw [hm] at hle ⊢
        by_cases c2:(h+1)*60≤t
        · rw [if_pos (show ((h+1:Nat):Int)*60≤(t:Int) by omega)]
          simp only [Option.bind_some]
          have hc:=Nx.cnt_le (Nx.bit b0) 60 0
          have hn:Nx.cnt (Nx.timB b0 b1) (min t ((h+1)*60)) 0=Nx.cnt (Nx.timB b0 b1) (h*60) 0+Nx.cnt (Nx.bit b0) 60 0:=by
            have e2:=Nx.tim_hour b0 b1 h 60 0 (by omega)
            rw [Nat.add_zero,if_pos q3] at e2
            rw [show min t ((h+1)*60)=h*60+60 by omega,Nx.cnt_add,Nat.zero_add,e2]
          have:=ih k (h+1) (by omega) (by omega)
          rw [hn] at this
          rw [Civ.w64 (by omega) (by omega),← this]
          congr 1
        · rw [if_neg (show ¬ ((h+1:Nat):Int)*60≤(t:Int) by omega)]
          have e1:Int.tmod (t:Int) 60=((t % 60:Nat):Int):=by rw [Int.tmod_eq_emod_of_nonneg (by omega)]; omega
          have hw:IntKind.u64.wrap ((t % 60:Nat):Int)=((t % 60:Nat):Int):=by rw [u64w]; omega
          obtain ⟨x,hx0,hx⟩ :=nat_of b0 h0
          have hlt:x % 2 ^ (t % 60) < 18446744073709551616:=Nat.lt_of_le_of_lt (Nat.mod_le _ _) hx
          rw [e1,hw,if_pos (by omega),hx0,Nx.low_bits x (t % 60) hx (by omega),ones_f _ hlt,Nx.low_ones x (t % 60) hx (by omega)]
          rw [← Nx.bit_nat x,← hx0]
          simp only [Option.bind_some]
          have hc:=Nx.cnt_le (Nx.bit b0) (t % 60) 0
          have hn:Nx.cnt (Nx.timB b0 b1) (min t ((h+1)*60)) 0=Nx.cnt (Nx.timB b0 b1) (h*60) 0+Nx.cnt (Nx.bit b0) (t % 60) 0:=by
            have e2:=Nx.tim_hour b0 b1 h (t % 60) 0 (by omega)
            rw [Nat.add_zero,if_pos q3] at e2
            rw [show min t ((h+1)*60)=h*60+t % 60 by omega,Nx.cnt_add,Nat.zero_add,e2]
          have:=ih k (h+1) (by omega) (by omega)
          rw [hn] at this
          rw [Civ.w64 (by omega) (by omega),← this]
          congr 1
      · rw [decide_eq_false (show ¬ (h:Int)*60 < (t:Int) by omega),next_ahead.j1,if_neg (by decide),show min t (h*60)=t by omega]
theorem Nx.ahead_f {b0 b1 : Int} (s0 s1 : Bool) (b2 : Int) (s2 : Bool) (b3 : Int) (s3 : Bool) (b4 : Int) (s4 : Bool) (h0 : InU b0) (h1 : InU b1) (hf : Nx.Fit b0 b1) (t : Nat) (ht : t < 1440) (k : Nat) (hk : 130 ≤ k) :
    next_ahead.f k b0 s0 b1 s1 b2 s2 b3 s3 b4 s4 (t:Int)=some ((Nx.cnt (Nx.timB b0 b1) t 0:Nat):Int):=by
  have this:=Nx.ahead_l s0 s1 b2 s2 b3 s3 b4 s4 h0 h1 hf t ht 64 k 0 (by omega) (by omega)
  rw [Nat.zero_mul,show min t 0=0 by omega,Nx.cnt_nil,show (((0:Nat)):Int)=0 from rfl] at this
  have e1:field_First.f b1 s1 0=some (match Nx.fst b1 0 with | some i=>((i:Int),true) | none=>(0,false)):=Nx.first_f b1 s1 h1 0
  unfold next_ahead.f
  rw [count_f b0 s0 h0,e1,Nx.popN_bits h0 60 (by omega) hf.m60,Option.bind_some,Option.bind_some]
  exact this
/-! Up to a minute; and the whole count. -/
theorem Nx.min_is {b0 : Int} {s0 : Bool} {b1 : Int} {s1 : Bool} {b2 : Int} {s2 : Bool} {b3 : Int} {s3 : Bool} {b4 : Int} {s4 : Bool} (h0 : InU b0) (h1 : InU b1) (A : day_odd.f b0 s0 b1 s1 b2 s2 b3 s3 b4 s4 = some false) (hf : Nx.Fit b0 b1) :
    day_Minutes.f b0 s0 b1 s1 b2 s2 b3 s3 b4 s4=some (((Nx.cnt (Nx.timB b0 b1) 1440 0:Nat):Int),0):=by
  have hle:=Nx.cnt_le (Nx.timB b0 b1) 1440 0
  rw [Nx.day_count h0 h1 hf] at hle ⊢
  unfold day_Minutes.f
  rw [A,count_f b1 s1 h1,count_f b0 s0 h0]
  simp only [Option.bind_some]
  rw [if_neg (by decide)]
  generalize popN 64 b1.toNat=P at hle ⊢
  generalize popN 64 b0.toNat=Q at hle ⊢
  rw [show (P:Int)*(Q:Int)=((P*Q:Nat):Int) by simp,Civ.w64 (by omega) (by omega)]
theorem Nx.cnt_eq (p:Nat→Bool){a b c d:Nat}(h:a=b)(h':c=d):Nx.cnt p a c=Nx.cnt p b d:=by rw [h,h']
theorem Nx.low32 (N cd:Nat)(hlt:N < 2 ^ 32)(hc:cd < 32):Go.bits .and .u32 (N:Int) ((shl .u32 1 (cd:Int) - 1) % 4294967296)=((N % 2 ^ cd:Nat):Int):=by
  have hp:=Nat.two_pow_pos cd
  have hk2:2 ^ cd < 2 ^ 32:=Nat.pow_lt_pow_right (by decide) hc
  have hk3:2 ^ cd < 4294967296:=hk2
  have hsh:shl .u32 1 (cd:Int)=((2 ^ cd:Nat):Int):=by
    unfold shl
    rw [show min ((cd:Int).toNat) (IntKind.bits .u32)=cd by simp [IntKind.bits]; omega,u32w,Int.one_mul]
    rw [show (2:Int) ^ cd=((2 ^ cd:Nat):Int) by simp]
    clear hk2
    generalize 2 ^ cd=Q at hk3
    omega
  rw [hsh]
  have hw2:(((2 ^ cd:Nat):Int) - 1) % 4294967296=((2 ^ cd - 1:Nat):Int):=by
    clear hk2 hsh
    generalize 2 ^ cd=Q at hk3 hp
    omega
  rw [hw2,(Dy.bits_u32 N (2 ^ cd - 1) hlt (by omega)).1,Nat.and_two_pow_sub_one_eq_mod]
theorem Nx.ones32 (n:Nat)(h:n < 2 ^ 32):bits_OnesCount32.f (n:Int)=some ((Nx.pop n:Nat):Int):=by
  unfold bits_OnesCount32.f
  have:n < 4294967296:=h
  rw [if_pos ⟨by omega,by omega⟩,Int.toNat_natCast,Nx.ones_pop _ h]
theorem Nx.tod (s:Nat):wrap64 (wrap64 ((s:Int) / 60 % 24*60)+(s:Int) % 60)=((s % 1440:Nat):Int):=by
  obtain ⟨h,hh⟩:∃ h:Nat,(s:Int) / 60 % 24=h:=⟨s / 60 % 24,by omega⟩
  obtain ⟨m,hm⟩:∃ m:Nat,(s:Int) % 60=m:=⟨s % 60,by omega⟩
  have e:h*60+m=s % 1440:=by omega
  rw [hh,hm,Nx.w60 h m (by omega) (by omega),e]
theorem Nx.w2 (a b c:Nat)(h:a+b=c)(hc:c≤1000000):wrap64 (wrap64 (a:Int)+(b:Int))=(c:Int):=by
  have e1:=Civ.w64 (x:=(a:Int)) (by omega) (by omega)
  have e2:=Civ.w64 (x:=(a:Int)+(b:Int)) (by omega) (by omega)
  exact (congrArg (fun z=>wrap64 (z+(b:Int))) e1).trans (e2.trans (by omega))
theorem Nx.w1 (a c:Nat)(h:a+0=c)(hc:c≤1000000):wrap64 (a:Int)=(c:Int):=(Civ.w64 (x:=(a:Int)) (by omega) (by omega)).trans (by omega)
theorem Nx.upTo_core {b0 : Int} {s0 : Bool} {b1 : Int} {s1 : Bool} {b2 : Int} {s2 : Bool} {b3 : Int} {s3 : Bool} {b4 : Int} {s4 : Bool} (h0 : InU b0) (h1 : InU b1) (h2 : InU b2) (h3 : InU b3) (h4 : InU b4) (A : day_odd.f b0 s0 b1 s1 b2 s2 b3 s3 b4 s4 = some false)
    {s:Nat} {y m:Int} {cd N:Nat} (hmask:Dy.mask false b2 s2 b3 b4 s4 y m=((N:Int),0)) (hlt:N < 2 ^ 32) (d1:1≤cd) (d2:cd≤31) (W TC AC:Nat) (hmin:day_Minutes.f b0 s0 b1 s1 b2 s2 b3 s3 b4 s4=some ((W:Int),0))
    (k:Nat) (hah:next_ahead.f k b0 s0 b1 s1 b2 s2 b3 s3 b4 s4 ((s % 1440:Nat):Int)=some (TC:Int)) (hup:Nx.pop (N % 2 ^ cd)*W+(if N.testBit cd=true then TC else 0)=AC) (hAC:AC≤100000) (w:Int) :
    next_upTo.f k b0 s0 b1 s1 b2 s2 b3 s3 b4 s4 y m (cd:Int) ((s:Int) / 60 % 24) ((s:Int) % 60) w=some (AC:Int):=by
  have hw:IntKind.u64.wrap (cd:Int)=(cd:Int):=by rw [u64w]; omega
  have hlo:=Nx.low32 N cd hlt (by omega)
  have hmlt:N % 2 ^ cd < 2 ^ 32:=Nat.lt_of_le_of_lt (Nat.mod_le _ _) hlt
  have hones:=Nx.ones32 _ hmlt
  have hb2:=bit32 N cd hlt (by omega)
  have hmul:((Nx.pop (N % 2 ^ cd):Nat):Int)*(W:Int)=((Nx.pop (N % 2 ^ cd)*W:Nat):Int):=by simp
  generalize Nx.pop (N % 2 ^ cd)*W=PW at hup hmul
  unfold next_upTo.f
  refine Option.bind_eq_some_iff.2 ⟨((N:Int),0),(mask_is h0 h1 h2 h3 h4 A y m).trans (congrArg some hmask),?_⟩
  refine Option.bind_eq_some_iff.2 ⟨((W:Int),0),hmin,?_⟩
  dsimp only
  rw [hw,if_pos (Int.natCast_nonneg cd),hlo,hb2]
  refine Option.bind_eq_some_iff.2 ⟨_,hones,?_⟩
  rw [hmul]
  by_cases hb:N.testBit cd=true
  · rw [if_pos hb] at hup
    rw [if_pos hb,if_pos rfl,Nx.tod s]
    exact Option.bind_eq_some_iff.2 ⟨_,hah,congrArg some (Nx.w2 PW TC AC hup (by omega))⟩
  · rw [if_neg hb] at hup
    rw [if_neg hb,if_neg (by decide)]
    exact congrArg some (Nx.w1 PW AC hup (by omega))
theorem Nx.upTo_f {b0 : Int} {s0 : Bool} {b1 : Int} {s1 : Bool} {b2 : Int} {s2 : Bool} {b3 : Int} {s3 : Bool} {b4 : Int} {s4 : Bool} (h0 : InU b0) (h1 : InU b1) (h2 : InU b2) (h3 : InU b3) (h4 : InU b4) (A : day_odd.f b0 s0 b1 s1 b2 s2 b3 s3 b4 s4 = some false) (hf : Nx.Fit b0 b1)
    {s:Nat} {y m:Int} {cd:Nat} (y1:1970≤y) (y2:y≤2999) (m1:1≤m) (m2:m≤12) (d1:1≤cd) (d2:(cd:Int)≤Civ.len y m) (w:Int) (k:Nat) (hk:130≤k) (X Y:Nat) (hX:(cd - 1)*1440+s % 1440=X) (hY:(Civ.num y m 1).toNat*1440=Y) :
    next_upTo.f k b0 s0 b1 s1 b2 s2 b3 s3 b4 s4 y m (cd:Int) ((s:Int) / 60 % 24) ((s:Int) % 60) w=some ((Nx.cnt (Nx.at2 b0 b1 b2 s2 b3 b4 s4) X Y:Nat):Int):=by
  obtain ⟨F,L,N,hday,hlen,hmask,hL28,hF,hFL,hFL2,hM,hlt,hzero⟩ :=Nx.mon_of b2 s2 b3 b4 s4 y1 y2 m1 m2
  have hL:=hM.len
  have hW:∀ D,Nx.cnt (Nx.at2 b0 b1 b2 s2 b3 b4 s4) 1440 (D*1440)=if Nx.dayB b2 s2 b3 b4 s4 (D:Int)=true then Nx.cnt (Nx.timB b0 b1) 1440 0 else 0:=fun D=>Nx.hW_of b0 b1 b2 s2 b3 b4 s4 _ rfl D
  have hup:=Nx.up_is (dB:=fun D=>Nx.dayB b2 s2 b3 b4 s4 (D:Int)) (tB:=Nx.timB b0 b1) hM (Nx.mask0 b2 s2 b3 b4 s4 y m N hmask) hW cd (s % 1440) d1 (by omega) (by omega)
  rw [← hF,Int.toNat_natCast] at hY
  have hup2:_=Nx.cnt (Nx.at2 b0 b1 b2 s2 b3 b4 s4) X Y:=hup.trans (congr (congrArg (Nx.cnt _) hX) hY)
  have hbd:=Nx.cnt_le (Nx.at2 b0 b1 b2 s2 b3 b4 s4) X Y
  exact Nx.upTo_core h0 h1 h2 h3 h4 A hmask hlt d1 (by omega) _ _ _ (Nx.min_is h0 h1 A hf) k (Nx.ahead_f s0 s1 b2 s2 b3 s3 b4 s4 h0 h1 hf _ (by omega) k hk) hup2 (Nat.le_trans hbd (by omega)) w
theorem Nx.sumW_to (W : Nat) (yb mb : Int) : ∀ (l : List (Nat × Int × Int)) (n : Int), (∀ x ∈ l, ∃ F N : Nat, x = (x.1, (F : Int), (N : Int)) ∧ F ≤ 376199 ∧ N < 2 ^ 32) → -1000000000000 ≤ n → n + (Nx.sumTo W yb mb l : Nat) ≤ 1000000000000 →
    Nx.sumW (W:Int) yb mb (l.map Nx.embF) n=n+(Nx.sumTo W yb mb l:Nat)
  | [],n,_,_,_=>(Int.add_zero n).symm
  | x :: l,n,hl,h1,h2=>by
    obtain ⟨F,N,hx,hF,hN⟩ :=hl x (List.mem_cons_self ..)
    have hN':N < 4294967296:=hN
    rw [hx] at h2 ⊢
    rw [List.map_cons]
    unfold Nx.sumTo at h2 ⊢
    unfold Nx.sumW
    have hs:Nx.stopC yb mb (Nx.embF (x.1,(F:Int),(N:Int)))=decide (Civ.yr (F:Int) > yb∨(Civ.yr (F:Int)=yb∧1+(Civ.mi (F:Int):Int)≥mb)):=by
      unfold Nx.stopC Nx.embF
      dsimp only
      rw [Civ.date_is (by omega) (by omega)]
      rw [Bool.eq_iff_iff]
      simp
    rw [hs]
    dsimp only at h2 ⊢
    by_cases c:Civ.yr (F:Int) > yb∨(Civ.yr (F:Int)=yb∧1+(Civ.mi (F:Int):Int)≥mb)
    · rw [if_pos (decide_eq_true c),if_pos c]
      simp
    · rw [if_neg c] at h2
      rw [if_neg (by rw [decide_eq_false c]; decide),if_neg c]
      have hv:(Fin.ofNat 4294967296 ((N:Int)).toNat).val=N:=by
        rw [Int.toNat_natCast]
        exact Nat.mod_eq_of_lt hN'
      have ha:Nx.addW (W:Int) n (Nx.embF (x.1,(F:Int),(N:Int)))=n+((Nx.pop N*W:Nat):Int):=by
        unfold Nx.addW Nx.embF
        dsimp only
        rw [hv,Nx.ones_pop N hN,show ((Nx.pop N:Nat):Int)*(W:Int)=((Nx.pop N*W:Nat):Int) by simp]
        rw [Int.toNat_natCast] at h2
        generalize Nx.pop N*W=PW at h2 ⊢
        rw [Civ.w64 (x:=(PW:Int)) (by omega) (by omega),Civ.w64 (by omega) (by omega)]
      rw [ha]
      rw [Int.toNat_natCast] at h2 ⊢
      rw [Nx.sumW_to W yb mb l (n+((Nx.pop N*W:Nat):Int)) (fun y hy=>hl y (List.mem_cons_of_mem _ hy)) (by omega) (by omega)]
      omega
theorem Nx.sub1440 (x y:Int)(h0:0≤x)(h:x≤y)(hy:y≤376199):(y - x).toNat*1440=y.toNat*1440 - x.toNat*1440∧x.toNat*1440≤y.toNat*1440∧y.toNat*1440 - x.toNat*1440≤600000000:=by omega
theorem Nx.lin1440 (s ca:Nat)(x L:Int)(h0:0≤x)(hc:1≤ca)(hl:(ca:Int)≤L)(hl2:L≤31)(h:(s:Int)=(x+ca - 1)*1440+((s % 1440:Nat):Int)):s=x.toNat*1440+((ca - 1)*1440+s % 1440)∧(ca - 1)*1440+s % 1440≤100000:=by omega
theorem Nx.count_core {b0 : Int} {s0 : Bool} {b1 : Int} {s1 : Bool} {b2 : Int} {s2 : Bool} {b3 : Int} {s3 : Bool} {b4 : Int} {s4 : Bool} (yb mb : Int) (W UB UA SM RES : Nat) (pb : Bool) (ML : List (Nat × Int × Int)) (hmem : ∀ x ∈ ML, ∃ F N : Nat, x = (x.1, (F : Int), (N : Int)) ∧ F ≤ 376199 ∧ N < 2 ^ 32)
    (hsum:Nx.sumTo W yb mb ML=SM) (htot:RES+UA=SM+UB+pb.toNat) (l1:UA≤100000) (l2:UB≤100000) (l3:SM≤600000000) :
    Nx.sumW (W:Int) yb mb (ML.map Nx.embF) (if pb=true then wrap64 (wrap64 ((UB:Int) - UA)+1) else wrap64 ((UB:Int) - UA))=(RES:Int):=by
  have w1:wrap64 ((UB:Int) - UA)=(UB:Int) - UA:=Civ.w64 (by omega) (by omega)
  have w2:wrap64 ((UB:Int) - UA+1)=(UB:Int) - UA+1:=Civ.w64 (by omega) (by omega)
  rw [w1]
  cases pb with
  | true=>
    rw [if_pos rfl,w2,Nx.sumW_to W yb mb ML _ hmem (by omega) (by omega),hsum]
    have:(true:Bool).toNat=1:=rfl
    omega
  | false=>
    rw [if_neg Bool.false_ne_true,Nx.sumW_to W yb mb ML _ hmem (by omega) (by omega),hsum]
    have:(false:Bool).toNat=0:=rfl
    omega
theorem Nx.count_is2 {b0 : Int} {s0 : Bool} {b1 : Int} {s1 : Bool} {b2 : Int} {s2 : Bool} {b3 : Int} {s3 : Bool} {b4 : Int} {s4 : Bool} (h0 : InU b0) (h1 : InU b1) (h2 : InU b2) (h3 : InU b3) (h4 : InU b4) {ob : Bool} (A : day_odd.f b0 s0 b1 s1 b2 s2 b3 s3 b4 s4 = some ob) (a c : Int) :
    next_Count.f b0 s0 b1 s1 b2 s2 b3 s3 b4 s4 a c=some (Nx.count ob (Nx.at2 b0 b1 b2 s2 b3 b4 s4) a c):=by
  unfold next_Count.f Nx.count
  rw [if_pos (okS_of h0 h1 h2 h3 h4),show next_odd.f b0 s0 b1 s1 b2 s2 b3 s3 b4 s4=some ob from A]
  simp only [Option.bind_some]
  cases ob with
  | true=>rw [if_pos rfl,if_pos rfl]
  | false=>
    rw [if_neg Bool.false_ne_true,if_neg Bool.false_ne_true]
    by_cases hl:a < 0∨c < a∨541728000 < c
    · rw [if_pos hl,if_pos hl]
    rw [if_neg hl,if_neg hl]
    by_cases he:a=c
    · rw [if_pos he,he,show (c - c).toNat=0 by omega]
      rfl
    rw [if_neg he]
    obtain ⟨ob',A',hq⟩ :=odd_is b0 s0 b1 s1 b2 s2 b3 s3 b4 s4
    rw [A] at A'
    obtain ⟨q0,q1,-⟩ :=hq (Option.some.inj A').symm
    have hf:=Nx.fit_of h0 h1 q0 q1
    obtain ⟨sa,rfl⟩:∃ sa:Nat,a=sa:=⟨a.toNat,by omega⟩
    obtain ⟨sb,hsb⟩:∃ sb:Nat,c - 1=sb:=⟨(c - 1).toNat,by omega⟩
    obtain ⟨ya,ma,ca,hofa,ya1,ya2,ma1,ma2,da1,da2,hsa,hna⟩ :=Nx.of_is (s:=sa) (by omega)
    obtain ⟨yb,mb,cb,hofb,yb1,yb2,mb1,mb2,db1,db2,hsb2,hnb⟩ :=Nx.of_is (s:=sb) (by omega)
    have oka:Civ.ok ya ma ca:=⟨ya1,ya2,ma1,ma2,by omega,da2⟩
    have okb:Civ.ok yb mb cb:=⟨yb1,yb2,mb1,mb2,by omega,db2⟩
    have oka1:Civ.ok ya ma 1:=⟨ya1,ya2,ma1,ma2,by omega,by omega⟩
    have okb1:Civ.ok yb mb 1:=⟨yb1,yb2,mb1,mb2,by omega,by omega⟩
    have hml:=Nx.mons_le oka okb (by rw [hna,hnb]; omega)
    have hba:=Civ.num_bd oka1
    have hbb:=Civ.num_bd okb1
    have hb31:=Civ.len_bd yb mb
    have ha31:=Civ.len_bd ya ma
    obtain ⟨XA,hXA⟩:∃ x,(ca - 1)*1440+sa % 1440=x:=⟨_,rfl⟩
    obtain ⟨XB,hXB⟩:∃ x,(cb - 1)*1440+sb % 1440=x:=⟨_,rfl⟩
    obtain ⟨YA,hYA⟩:∃ x,(Civ.num ya ma 1).toNat*1440=x:=⟨_,rfl⟩
    obtain ⟨YB,hYB⟩:∃ x,(Civ.num yb mb 1).toNat*1440=x:=⟨_,rfl⟩
    obtain ⟨e1,g4,g7⟩ :=Nx.sub1440 _ _ hba.1 hml hbb.2
    obtain ⟨g1,g5⟩ :=Nx.lin1440 sa ca _ _ hba.1 da1 da2 ha31.2 hsa
    obtain ⟨g2,g6⟩ :=Nx.lin1440 sb cb _ _ hbb.1 db1 db2 hb31.2 hsb2
    rw [hYA,hYB] at e1 g4 g7
    rw [hXA] at g1 g5
    rw [hXB] at g2 g6
    rw [hYA] at g1
    rw [hYB] at g2
    have g3:sa≤sb:=by clear hba hbb hml hna hnb hsa hsb2 e1 g4 g7 g1 g5 g2 g6 hXA hXB hYA hYB; omega
    have g8:(2999 - ya)*12+(13 - ma)+2≤((20000:Nat):Int):=by clear hba hbb hml hna hnb hsa hsb2 e1 g4 g7 g1 g5 g2 g6 hXA hXB hYA hYB; omega
    have g9:ma≤13:=Int.le_trans ma2 (by decide)
    have hc1:(c - (sa:Int)).toNat=sb+1 - sa:=by clear hba hbb hml hna hnb hsa hsb2 e1 g4 g7 g1 g5 g2 g6 hXA hXB hYA hYB; omega
    have g10:¬ ((sb:Int) < 0∨541727999 < (sb:Int)):=by clear hba hbb hml hna hnb hsa hsb2 e1 g4 g7 g1 g5 g2 g6 hXA hXB hYA hYB; omega
    have hsum:=Nx.sum_spec (b0:=b0) (b1:=b1) (b2:=b2) (s2:=s2) (b3:=b3) (b4:=b4) (s4:=s4) (Nx.cnt (Nx.timB b0 b1) 1440 0) (fun D=>Nx.hW_of b0 b1 b2 s2 b3 b4 s4 _ rfl D) yb mb yb1 yb2 mb1 mb2 20000 ya ma 0 ya1 ya2 ma1 g9 g8
    have e2:=Nx.cnt_eq (Nx.at2 b0 b1 b2 s2 b3 b4 s4) e1 hYA
    have hsum2:=hsum.trans e2
    have htot:=Nx.total (Nx.at2 b0 b1 b2 s2 b3 b4 s4) YA YB XA XB sa sb g1 g2 g3 g4
    have l1:=Nat.le_trans (Nx.cnt_le (Nx.at2 b0 b1 b2 s2 b3 b4 s4) XA YA) g5
    have l2:=Nat.le_trans (Nx.cnt_le (Nx.at2 b0 b1 b2 s2 b3 b4 s4) XB YB) g6
    have l3:=Nat.le_trans (Nx.cnt_le (Nx.at2 b0 b1 b2 s2 b3 b4 s4) (YB - YA) YA) g7
    have hcore:=Nx.count_core (b0:=b0) (s0:=s0) (b1:=b1) (s1:=s1) (b2:=b2) (s2:=s2) (b3:=b3) (s3:=s3) (b4:=b4) (s4:=s4) yb mb _ _ _ _ _ (Nx.at2 b0 b1 b2 s2 b3 b4 s4 sb) _ (Nx.mons_mem b2 s2 b3 b4 s4 1 20000 ya ma 0) hsum2 htot l1 l2 l3
    have hma:(Dy.match_ false b0 b1 b2 s2 b3 b4 s4 (sb:Int)).1=Nx.at2 b0 b1 b2 s2 b3 b4 s4 sb:=by
      unfold Dy.match_
      rw [if_neg Bool.false_ne_true,if_neg g10,Nx.at_split]
    rw [Nx.min_is h0 h1 A hf,hsb,hofa,hofb]
    dsimp only
    simp only [Option.bind_some]
    rw [Nx.upTo_f h0 h1 h2 h3 h4 A hf yb1 yb2 mb1 mb2 db1 db2 _ 1000 (by decide) XB YB hXB hYB,Nx.upTo_f h0 h1 h2 h3 h4 A hf ya1 ya2 ma1 ma2 da1 da2 _ 1000 (by decide) XA YA hXA hYA]
    simp only [Option.bind_some]
    rw [hma,hc1,Int.toNat_natCast]
    exact congrArg (fun z:Int=>some (z,(0:Int))) hcore
/-! The document's examples of next. -/
theorem Nx.wk0:next_Next.f 1073741824 false 64 false 536870912 false 4 false 127 true 29911680=some (30590310,0):=by kernel_rfl
theorem Nx.wk1:next_Next.f 1073741824 false 64 false 536870912 false 4 false 127 true 30590310=some (32694150,0):=by kernel_rfl
theorem Nx.wk3:next_Next.f 35185445863425 false 16777215 true 4294967294 true 8190 true 127 true 14=some (15,0):=by kernel_rfl
theorem Nx.wk4:next_Prev.f 35185445863425 false 16777215 true 4294967294 true 8190 true 127 true 15=some (0,0):=by kernel_rfl
theorem Nx.wk5:next_Count.f 35185445863425 false 16777215 true 4294967294 true 8190 true 127 true 0 1440=some (96,0):=by kernel_rfl
theorem Nx.feb30 (D:Nat)(h:D≤376199):Nx.dayB 1073741824 false 4 127 true (D:Int)=false:=by
  obtain ⟨ok,-⟩ :=Civ.date_ok (d:=(D:Int)) (by omega) (by omega)
  obtain ⟨q1,q2,q3,q4,q5,q6⟩ :=ok
  have hlt:Civ.mi (D:Int) < 12:=by clear q5 q6; omega
  have h1:∀ k:Nat,k < 12→Dy.has 4 (1+(k:Int))=true→k=1:=by decide
  have h2:∀ k:Nat,k < 32→Dy.has 1073741824 (k:Int)=true→k=30:=by decide
  have hb:=Civ.len_bd (Civ.yr (D:Int)) (1+(Civ.mi (D:Int):Int))
  unfold Nx.dayB
  cases hm:Dy.has 4 (1+(Civ.mi (D:Int):Int)) with
  | false=>rfl
  | true=>
    have hmi:Civ.mi (D:Int)=1:=h1 _ hlt hm
    rw [Bool.true_and]
    have hl:Civ.len (Civ.yr (D:Int)) (1+(Civ.mi (D:Int):Int))≤29:=by
      rw [hmi]
      unfold Civ.len
      cases Civ.leap (Civ.yr (D:Int)) <;> decide
    unfold Dy.by_
    rw [if_neg (by simp)]
    cases hd:Dy.has 1073741824 (Civ.dy (D:Int)) with
    | false=>rfl
    | true=>
      obtain ⟨n,hn⟩:∃ n:Nat,Civ.dy (D:Int)=n:=⟨(Civ.dy (D:Int)).toNat,by omega⟩
      rw [hn] at hd q6 q5
      have hn32:n < 32:=by omega
      have:=h2 n hn32 hd
      omega
theorem Nx.wk2:next_Next.f 1 false 1 false 1073741824 false 4 false 127 true 0=some (0,11):=by
  have A:day_odd.f 1 false 1 false 1073741824 false 4 false 127 true=some false:=by kernel_rfl
  rw [Nx.next_is ⟨by decide,by decide⟩ ⟨by decide,by decide⟩ ⟨by decide,by decide⟩ ⟨by decide,by decide⟩ ⟨by decide,by decide⟩ A 0]
  unfold Nx.next
  rw [if_neg Bool.false_ne_true,if_neg (by decide),Nx.find_no]
  intro j j1 j2
  have:j / 1440≤376199:=by
    have e:541728000 - ((max (0:Int) (-1))+1).toNat=541727999:=by decide
    rw [e] at j2
    have e':((max (0:Int) (-1))+1).toNat=1:=by decide
    rw [e'] at j2
    omega
  show (Nx.dayB 1073741824 false 4 127 true ((j / 1440:Nat):Int) && _)=false
  rw [Nx.feb30 _ this,Bool.false_and]
end Go.Proofs.YtabhfcoljgcpeaaGreatDoor.PNex
