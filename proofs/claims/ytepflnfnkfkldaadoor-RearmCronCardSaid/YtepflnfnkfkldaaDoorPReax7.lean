-- Written by a program of this session (gprint.py) over the kit's print.
import Derived.Test.YtepflnfnkfkldaaDoorPReax0
import Derived.Test.YtepflnfnkfkldaaDoorPReax3
import Derived.Test.YtepflnfnkfkldaaDoorPReax5
import Derived.Test.YtepflnfnkfkldaaDoorPReax6
namespace Go.Proofs.YtepflnfnkfkldaaDoor.PRea
open Go.RowKit Go.Proofs.YtepflnfnkfkldaaDoorW.PrintWords Go.Proofs.YtepflnfnkfkldaaDoorW.PrintLast Go.Proofs.YtepflnfnkfkldaaDoorW.PrintMore
attribute [local go_sem] max2_int min2_int max_two min_two max_three min_three max_four min_four
set_option linter.unusedVariables false
set_option linter.unusedSimpArgs false
/-! The calendar: what civil's printed functions answer, in closed form. -/
theorem Civ.leap_of (y:Int):Civ.leap y=true↔(y % 4=0∧(y % 100≠0∨y % 400=0)):=by
 simp [Civ.leap]
theorem Civ.cum12 (y:Int):Civ.cum y 12=Civ.dby (y+1) - Civ.dby y:=by
 simp only [Civ.cum,Civ.len]
 simp
 have:=Civ.leap_of y
 unfold Civ.dby
 split
 ·rename_i h
  have:=this.1 h
  omega
 ·rename_i h
  have h2:¬ (y % 4=0∧(y % 100≠0∨y % 400=0)):=fun x=>h (this.2 x)
  omega
def Civ.week (d:Int):Int × Int:=if d < 0∨376199 < d then (0,1) else ((d+4) % 7,0)
theorem Civ.week_f (d:Int):civil_Week.f d=some (Civ.week d):=by
 unfold civil_Week.f Civ.week
 by_cases h0:d < 0
 ·rw [if_pos h0,if_pos (.inl h0)]
 ·by_cases h1:376199 < d
  ·rw [if_neg h0,if_pos h1,if_pos (.inr h1)]
  ·rw [if_neg h0,if_neg h1,if_neg (by omega),Civ.w64 (by omega) (by omega),Int.tmod_eq_emod_of_nonneg (by omega)]
theorem Civ.gone_k (y:Int)(m:Nat)(hm:m≤20)(k:Nat)(hk:30≤k):civil_gone.f k y m=some (Civ.cum y (m - 1)):=by
 unfold civil_gone.f
 rcases Nat.eq_zero_or_pos m with h | h
 ·subst h
  obtain ⟨k,rfl⟩:∃ j,k=j+1:=⟨k - 1,by omega⟩
  simp [civil_gone.l0,Civ.cum]
 ·have:=Civ.gone_l y m hm (m - 1) k 1 (by omega) (by omega) (by omega)
  simpa [Civ.cum] using this
theorem Civ.len_pos {y m:Int}(h:1≤Civ.len y m):1≤m∧m≤12:=by
 unfold Civ.len at h
 split at h
 ·omega
 ·split at h
  ·omega
  ·omega
theorem Civ.len_ge {y m:Int}(h:1≤m)(h2:m≤12):28≤Civ.len y m:=by
 unfold Civ.len
 repeat' split
 all_goals omega
theorem Civ.dby_bd {y:Int}(h0:1970≤y)(h1:y≤3000):0≤Civ.dby y∧Civ.dby y≤376200:=by unfold Civ.dby; omega
def Civ.num (y m d:Int):Int:=Civ.dby y+Civ.cum y (m - 1).toNat+d - 1
def Civ.day (y m d:Int):Int × Int:=if y < 1970∨2999 < y∨d < 1∨Civ.len y m < d then (0,1) else (Civ.num y m d,0)
theorem Civ.day_f (y m d:Int)(k:Nat)(hk:100≤k):civil_Day.f k y m d=some (Civ.day y m d):=by
 obtain ⟨k,rfl⟩:∃ j,k=j+1:=⟨k - 1,by omega⟩
 unfold civil_Day.f Civ.day
 by_cases h1:y < 1970
 ·rw [if_pos h1,if_pos (.inl h1)]; simp [civil_Day.j0]
 rw [if_neg h1]
 by_cases h2:2999 < y
 ·rw [if_pos h2,if_pos (.inr (.inl h2))]; simp [civil_Day.j0]
 rw [if_neg h2]
 by_cases h3:d < 1
 ·rw [if_pos h3,if_pos (.inr (.inr (.inl h3)))]; simp [civil_Day.j0]
 rw [if_neg h3]
 simp only [civil_Length.f,Option.bind_some]
 by_cases h4:Civ.len y m < d
 ·rw [if_pos (.inr (.inr (.inr h4)))]; simp [civil_Day.j0,h4]
 rw [if_neg (by omega)]
 have hm:=Civ.len_pos (show 1≤Civ.len y m by omega)
 have hg:=Civ.gone_k y m.toNat (by omega) k (by omega)
 rw [show ((m.toNat:Nat):Int)=m by omega] at hg
 have hd:decide (d > Civ.len y m)=false:=decide_eq_false (by omega)
 simp only [civil_Day.j0,hd]
 rw [if_neg (by simp),Civ.ahead_f (by omega) (by omega),hg]
 simp only [Option.bind_some]
 have b1:=Civ.dby_bd (y:=y) (by omega) (by omega)
 have b2:=Civ.cum_bd y (m.toNat - 1)
 have b3:=Civ.len_bd y m
 rw [Civ.w64 (x:=Civ.dby y+_) (by omega) (by omega),Civ.w64 (x:=Civ.dby y+_+_) (by omega) (by omega),Civ.w64 (by omega) (by omega)]
 unfold Civ.num
 rw [show (m - 1).toNat=m.toNat - 1 by omega]
/-- A date that there is. -/
def Civ.ok (y m d:Int):Prop:=1970≤y∧y≤2999∧1≤m∧m≤12∧1≤d∧d≤Civ.len y m
theorem Civ.day_ok {y m d:Int}(h:Civ.ok y m d):Civ.day y m d=(Civ.num y m d,0):=by
 obtain ⟨h1,h2,h3,h4,h5,h6⟩ :=h
 unfold Civ.day
 rw [if_neg (by omega)]
theorem Civ.day_no {y m d:Int}(h:¬ Civ.ok y m d):Civ.day y m d=(0,1):=by
 unfold Civ.day
 split
 ·rfl
 ·rename_i hn
  have:=Civ.len_pos (show 1≤Civ.len y m by omega)
  exact absurd ⟨by omega,by omega,this.1,this.2,by omega,by omega⟩ h
theorem Civ.mi_spec {d:Int}(h0:0≤d)(h:d≤376199) :
  d - Civ.dby (Civ.yr d) < Civ.cum (Civ.yr d) (Civ.mi d+1)∧Civ.cum (Civ.yr d) (Civ.mi d)≤d - Civ.dby (Civ.yr d)∧Civ.mi d≤11:=by
 have s:=Civ.srch_spec (fun i=>decide (d - Civ.dby (Civ.yr d) < Civ.cum (Civ.yr d) (i+1))) 11 0
 have hu:=Civ.yi_up h
 have hl:=Civ.yi_lo h0
 have hle:Civ.mi d≤11:=s.2.2.2
 refine ⟨?_,?_,hle⟩
 ·rcases Nat.lt_or_ge (Civ.mi d) 11 with hlt | hge
  ·exact of_decide_eq_true (s.2.1 hlt)
  ·rw [show Civ.mi d=11 by omega]
   have:=Civ.cum12 (Civ.yr d)
   rw [show (11+1:Nat)=12 by rfl,this]
   unfold Civ.yr
   omega
 ·rcases Nat.eq_zero_or_pos (Civ.mi d) with hz | hp
  ·rw [hz]; simp only [Civ.cum]; unfold Civ.yr; omega
  ·have:=of_decide_eq_false (s.1 (Civ.mi d - 1) (by omega) (show Civ.mi d - 1 < Civ.mi d by omega))
   rw [show Civ.mi d - 1+1=Civ.mi d by omega] at this
   omega
theorem Civ.yr_bd {d:Int}(h0:0≤d)(_:d≤376199):1970≤Civ.yr d∧Civ.yr d≤2999:=by
 have h1:=Civ.yi_lo h0
 have h2:=Civ.yi_le d
 refine ⟨by unfold Civ.yr; omega,?_⟩
 unfold Civ.yr
 rcases Nat.lt_or_ge (Civ.yi d) 1030 with hl | hl
 ·omega
 ·omega
theorem Civ.date_ok {d:Int}(h0:0≤d)(h:d≤376199):Civ.ok (Civ.yr d) (1+Civ.mi d) (Civ.dy d)∧Civ.num (Civ.yr d) (1+Civ.mi d) (Civ.dy d)=d:=by
 have hm:=Civ.mi_spec h0 h
 have hy:=Civ.yr_bd h0 h
 have hs:Civ.cum (Civ.yr d) (Civ.mi d+1)=Civ.cum (Civ.yr d) (Civ.mi d)+Civ.len (Civ.yr d) (1+Civ.mi d):=by
  simp only [Civ.cum]; rw [show ((Civ.mi d:Int)+1)=1+Civ.mi d by omega]
 refine ⟨⟨hy.1,hy.2,by omega,by omega,by unfold Civ.dy; omega,by unfold Civ.dy; omega⟩,?_⟩
 unfold Civ.num Civ.dy
 rw [show (1+(Civ.mi d:Int) - 1).toNat=Civ.mi d by omega]
 omega
theorem Civ.date_is {d:Int}(h0:0≤d)(h:d≤376199):Civ.date d=(Civ.yr d,1+(Civ.mi d:Int),Civ.dy d,0):=by
 unfold Civ.date; rw [if_neg (by omega)]
theorem Civ.cum_len (y:Int)(m:Nat):Civ.cum y (m+1)=Civ.cum y m+Civ.len y (m+1):=by simp only [Civ.cum]
theorem Civ.num_lt {y m d:Int}(h:Civ.ok y m d):Civ.dby y≤Civ.num y m d∧Civ.num y m d < Civ.dby (y+1):=by
 obtain ⟨h1,h2,h3,h4,h5,h6⟩ :=h
 have hc:=Civ.cum_bd y (m - 1).toNat
 have hs:=Civ.cum_len y (m - 1).toNat
 rw [show (((m - 1).toNat:Nat):Int)+1=m by omega] at hs
 have hm:=Civ.cum_mono y (show (m - 1).toNat+1≤12 by omega)
 have h12:=Civ.cum12 y
 unfold Civ.num
 omega
theorem Civ.num_inj {y m d y' m' d':Int}(h:Civ.ok y m d)(h':Civ.ok y' m' d')(e:Civ.num y m d=Civ.num y' m' d'):y=y'∧m=m'∧d=d':=by
 have l:=Civ.num_lt h
 have l':=Civ.num_lt h'
 have hy:y=y':=by
  by_cases c:y < y'
  ·have:=Civ.dby_mono (show y+1≤y' by omega); omega
  ·by_cases c':y' < y
   ·have:=Civ.dby_mono (show y'+1≤y by omega); omega
   ·omega
 subst hy
 obtain ⟨h1,h2,h3,h4,h5,h6⟩ :=h
 obtain ⟨_,_,h3',h4',h5',h6'⟩ :=h'
 have hs:=Civ.cum_len y (m - 1).toNat
 rw [show (((m - 1).toNat:Nat):Int)+1=m by omega] at hs
 have hs':=Civ.cum_len y (m' - 1).toNat
 rw [show (((m' - 1).toNat:Nat):Int)+1=m' by omega] at hs'
 unfold Civ.num at e
 have hm:m=m':=by
  by_cases c:m < m'
  ·have:=Civ.cum_mono y (show (m - 1).toNat+1≤(m' - 1).toNat by omega); omega
  ·by_cases c':m' < m
   ·have:=Civ.cum_mono y (show (m' - 1).toNat+1≤(m - 1).toNat by omega); omega
   ·omega
 subst hm
 exact ⟨rfl,rfl,by omega⟩
theorem Civ.num_bd {y m d:Int}(h:Civ.ok y m d):0≤Civ.num y m d∧Civ.num y m d≤376199:=by
 have l:=Civ.num_lt h
 have b1:=Civ.dby_bd (y:=y) h.1 (by have:=h.2.1; omega)
 have b2:=Civ.dby_bd (y:=y+1) (by have:=h.1; omega) (by have:=h.2.1; omega)
 omega
/-- What is told of a date is told back. -/
theorem Civ.date_num {y m d:Int}(h:Civ.ok y m d):Civ.date (Civ.num y m d)=(y,m,d,0):=by
 have b:=Civ.num_bd h
 have k:=Civ.date_ok b.1 b.2
 obtain ⟨e1,e2,e3⟩ :=Civ.num_inj k.1 h k.2
 rw [Civ.date_is b.1 b.2,e1,e2,e3]
def Civ.of (t:Int):Int × Int × Int × Int × Int × Int × Int:=
 if t < 0∨541727999 < t then (0,0,0,0,0,0,1) else (Civ.yr (t / 1440),1+(Civ.mi (t / 1440):Int),Civ.dy (t / 1440),t / 60 % 24,t % 60,(t / 1440+4) % 7,0)
theorem Civ.of_f (t:Int)(k:Nat)(hk:2≤k):civil_Of.f k t=some (Civ.of t):=by
 obtain ⟨k,rfl⟩:∃ j,k=j+1:=⟨k - 1,by omega⟩
 unfold civil_Of.f Civ.of
 by_cases h1:t < 0
 ·rw [if_pos h1,if_pos (.inl h1)]; simp [civil_Of.j0]
 rw [if_neg h1]
 by_cases h2:541727999 < t
 ·rw [if_pos (.inr h2)]; simp [civil_Of.j0,h2]
 rw [if_neg (by omega)]
 have hd:decide (t > 541727999)=false:=decide_eq_false (by omega)
 simp only [civil_Of.j0,hd]
 rw [if_neg (by simp),Int.tdiv_eq_ediv_of_nonneg (by omega),Int.tdiv_eq_ediv_of_nonneg (by omega),Civ.w64 (x:=t / 1440) (by omega) (by omega),Civ.w64 (x:=t / 60) (by omega) (by omega)]
 rw [Int.tmod_eq_emod_of_nonneg (by omega),Int.tmod_eq_emod_of_nonneg (by omega),Civ.week_f]
 simp only [civil_Date.f,Option.bind_some]
 rw [Civ.date_is (by omega) (by omega)]
 unfold Civ.week
 rw [if_neg (by omega)]
theorem Civ.day_bd (y m d:Int):0≤(Civ.day y m d).1∧(Civ.day y m d).1≤376199:=by
 by_cases h:Civ.ok y m d
 ·rw [Civ.day_ok h]; exact Civ.num_bd h
 ·rw [Civ.day_no h]; simp
/-! This session's own: the days of a month that match, as bits. -/
def Dy.bitAt (b:Int)(i:Nat):Bool:=b.toNat.testBit i
def Dy.has (b v:Int):Bool:=decide (0≤v) && decide (v < 64) && Dy.bitAt b v.toNat
abbrev Dy.InU (b:Int):Prop:=0≤b∧b < 18446744073709551616
theorem Dy.u64w (z:Int):IntKind.u64.wrap z=z % 18446744073709551616:=by simp [IntKind.wrap,IntKind.bits,IntKind.signed]
theorem Dy.u32w (z:Int):IntKind.u32.wrap z=z % 4294967296:=by simp [IntKind.wrap,IntKind.bits,IntKind.signed]
theorem Dy.bits_u64 (a b:Nat)(ha:a < 2 ^ 64)(hb:b < 2 ^ 64):Go.bits .and .u64 a b=((a &&& b:Nat):Int)∧Go.bits .or .u64 a b=((a ||| b:Nat):Int):=
 bits_nat .u64 64 (by decide) (fun z h0 h1=>IntWalk.u64_in z ⟨h0,by omega⟩) a b ha hb
theorem Dy.bits_u32 (a b:Nat)(ha:a < 2 ^ 32)(hb:b < 2 ^ 32):Go.bits .and .u32 a b=((a &&& b:Nat):Int)∧Go.bits .or .u32 a b=((a ||| b:Nat):Int):=
 bits_nat .u32 32 (by decide) (fun z h0 h1=>by rw [Dy.u32w]; omega) a b ha hb
theorem Dy.shr_nat (a n:Nat)(h:n < 64):shr .u64 (a:Int) (n:Int)=((a / 2 ^ n:Nat):Int):=by
 unfold shr
 rw [show min ((n:Int).toNat) (IntKind.bits .u64)=n by simp [IntKind.bits]; omega]
 rw [show (2:Int) ^ n=((2 ^ n:Nat):Int) by simp]
 simp
theorem Dy.has_f (b:Int)(s:Bool)(v:Int)(hb:Dy.InU b):field_Has.f b s v=some (Dy.has b v):=by
 obtain ⟨n,rfl⟩ :=Int.eq_ofNat_of_zero_le hb.1
 have hn:n < 2 ^ 64:=by have:=hb.2; omega
 unfold field_Has.f Dy.has
 by_cases h0:v≥0
 ·rw [if_pos h0]
  by_cases h1:v < 64
  ·rw [if_pos h1]
   obtain ⟨m,rfl⟩ :=Int.eq_ofNat_of_zero_le h0
   have hw:IntKind.u64.wrap (m:Int)=m:=by rw [Dy.u64w]; omega
   rw [hw,if_pos (by omega),Dy.shr_nat n m (by omega),show (1:Int)=((1:Nat):Int) from rfl,(Dy.bits_u64 _ 1 (by have:=Nat.div_le_self n (2 ^ m); omega) (by decide)).1]
   congr 1
   unfold Dy.bitAt
   rw [Int.toNat_natCast,Int.toNat_natCast,decide_eq_true (by omega),decide_eq_true h1,Nat.testBit,Nat.shiftRight_eq_div_pow,Nat.and_comm]
   simp only [Bool.true_and]
   rw [Bool.eq_iff_iff]
   simp only [beq_iff_eq,bne_iff_ne]
   have:1 &&& (n / 2 ^ m) < 2:=Nat.lt_of_le_of_lt Nat.and_le_left (by decide)
   omega
  ·rw [if_neg h1,decide_eq_false h1]; simp
 ·rw [if_neg h0,decide_eq_false h0]; simp
def Dy.maskN (p:Nat→Bool):Nat→Nat
 | 0=>0
 | n+1=>Dy.maskN p n+if p n then 2 ^ (n+1) else 0
theorem Dy.maskN_lt (p:Nat→Bool):∀ n,Dy.maskN p n < 2 ^ (n+1)
 | 0=>by simp [Dy.maskN]
 | n+1=>by
  have:=Dy.maskN_lt p n
  simp only [Dy.maskN]
  have e:2 ^ (n+1+1)=2 ^ (n+1)+2 ^ (n+1):=by rw [Nat.pow_succ 2 (n+1)]; omega
  split <;> omega
theorem Dy.maskN_or (p:Nat→Bool)(n:Nat):Dy.maskN p n ||| 2 ^ (n+1)=Dy.maskN p n+2 ^ (n+1):=by
 have h:=Nat.two_pow_add_eq_or_of_lt (Dy.maskN_lt p n) 1
 rw [Nat.mul_one] at h
 rw [Nat.or_comm,← h,Nat.add_comm]
theorem Dy.maskN_bit (p:Nat→Bool)(d:Nat):∀ n,(Dy.maskN p n).testBit d=(decide (1≤d) && decide (d≤n) && p (d - 1))
 | 0=>by
  simp only [Dy.maskN,Nat.zero_testBit]
  by_cases h:1≤d
  ·rw [decide_eq_false (by omega:¬ d≤0)]; simp
  ·rw [decide_eq_false h]; simp
 | n+1=>by
  have ih:=Dy.maskN_bit p d n
  simp only [Dy.maskN]
  by_cases hp:p n=true
  ·rw [if_pos hp,← Dy.maskN_or,Nat.testBit_or,ih,Nat.testBit_two_pow]
   by_cases hd:d=n+1
   ·subst hd; simp [hp]
   ·rw [decide_eq_false (by omega:¬ n+1=d)]
    by_cases hl:d≤n
    ·rw [decide_eq_true hl,decide_eq_true (by omega:d≤n+1)]; simp
    ·rw [decide_eq_false hl,decide_eq_false (by omega:¬ d≤n+1)]; simp
  ·rw [if_neg hp,Nat.add_zero,ih]
   by_cases hd:d=n+1
   ·subst hd
    have:p n=false:=by simpa using hp
    simp [this]
   ·by_cases hl:d≤n
    ·rw [decide_eq_true hl,decide_eq_true (by omega:d≤n+1)]
    ·rw [decide_eq_false hl,decide_eq_false (by omega:¬ d≤n+1)]
theorem Dy.mask_step2 (p:Nat→Bool)(n:Nat)(h:n < 31)(hp:p n=true):Go.bits .or .u32 (Dy.maskN p n:Int) (2*2 ^ n % 4294967296)=(Dy.maskN p (n+1):Int):=by
 have h1:=Dy.maskN_lt p n
 have h2:=Nat.pow_lt_pow_right (a:=2) (by decide) (show n+1 < 32 by omega)
 have e:(2:Int)*2 ^ n % 4294967296=((2 ^ (n+1):Nat):Int):=by
  rw [show (2:Int) ^ n=((2 ^ n:Nat):Int) by simp]
  rw [show (2:Nat) ^ 32=4294967296 by decide,Nat.pow_succ] at h2
  rw [Nat.pow_succ]
  generalize (2:Nat) ^ n=q at h2 ⊢
  omega
 rw [e,(Dy.bits_u32 _ _ (by omega) h2).2,Dy.maskN_or]
 simp only [Dy.maskN]
 rw [if_pos hp]
theorem Dy.mask_keep (p:Nat→Bool)(n:Nat)(hp:p n=false):Dy.maskN p (n+1)=Dy.maskN p n:=by simp [Dy.maskN,hp]
/-- Which days of its months match, by what is a star. -/
def Dy.by_ (bD:Int)(sD:Bool)(bW:Int)(sW:Bool)(d w:Int):Bool:=if sD=false∧sW=false then Dy.has bD d || Dy.has bW w else Dy.has bD d && Dy.has bW w
def Dy.okS (b0 b1 b2 b3 b4:Int):Bool:=decide (Dy.InU b0∧Dy.InU b1∧Dy.InU b2∧Dy.InU b3∧Dy.InU b4)
def Dy.dayP (bD:Int)(sD:Bool)(bW:Int)(sW:Bool)(first:Int)(i:Nat):Bool:=Dy.by_ bD sD bW sW ((i:Int)+1) (((first+4) % 7+(i:Int)) % 7)
def Dy.mask (o:Bool)(bD:Int)(sD:Bool)(bMo bW:Int)(sW:Bool)(y m:Int):Int × Int:=
 if o=true then (0,2) else if (Civ.day y m 1).2≠0 then (0,1) else
 if Dy.has bMo m=true then ((Dy.maskN (Dy.dayP bD sD bW sW (Civ.day y m 1).1) (Civ.len y m).toNat:Nat),0) else (0,0)
/-- Does a minute match? -/
def Dy.at_ (bMi bH bD:Int)(sD:Bool)(bMo bW:Int)(sW:Bool)(t:Int):Bool:=
 Dy.has bMo (1+(Civ.mi (t / 1440):Int)) && Dy.by_ bD sD bW sW (Civ.dy (t / 1440)) ((t / 1440+4) % 7) && Dy.has bH (t / 60 % 24) && Dy.has bMi (t % 60)
def Dy.match_ (o:Bool)(bMi bH bD:Int)(sD:Bool)(bMo bW:Int)(sW:Bool)(t:Int):Bool × Int:=
 if o=true then (false,2) else if t < 0∨541727999 < t then (false,1) else (Dy.at_ bMi bH bD sD bMo bW sW t,0)
/-! This session's own: which days match, by what is a star. -/
set_option maxHeartbeats 4000000 in
set_option maxRecDepth 100000 in
theorem Dy.by1_calls (g:Nat)(b0:Int)(s0:Bool)(b1:Int)(s1:Bool)(b2:Int)(s2:Bool)(b3:Int)(s3:Bool)(b4:Int)(s4:Bool)(d k:Int)(W:World)(hR:Spc.Row W g b0 s0 b1 s1 b2 s2 b3 s3 b4 s4)(h2:Dy.InU b2)(h4:Dy.InU b4) :
  Calls Tryd.prog 70 #[.int .i64 d,.int .i64 k,.pointer (some ⟨g,0,none⟩)] W fun e w'=>e=.returned (.bool (Dy.has b2 d || Dy.has b4 k))∧Below W.heap.size W w':=by
 have HB:=Aside0.mk (Below.refl W.heap.size W)
 have A2:=Lib.hid (Dy.has_f b2 s2 d h2)
 have A4:=Lib.hid (Dy.has_f b4 s4 k h4)
 obtain ⟨c0,c1,c2,c3,c4,c5,c6,c7,c8,c9⟩ :=hR.cells
 have HR:=Aside0.mk hR
 clear hR h2 h4
 obtain ⟨x,hx⟩:∃ x,Dy.has b2 d=x:=⟨_,rfl⟩
 obtain ⟨y,hy⟩:∃ y,Dy.has b4 k=y:=⟨_,rfl⟩
 rw [hx] at A2 ⊢
 rw [hy] at A4 ⊢
 clear hx hy
 cases x with
 | true=>
  go_enter Tryd.func70,Tryd.ntmps70
  go_wp2_with (go_at_call 42; refine (field_Has.calls b2 s2 d true _ A2.out).mono ?_; rintro e w' ⟨rfl,hb⟩)
  go_ret
  exact ⟨rfl,hb⟩
 | false=>
  go_enter Tryd.func70,Tryd.ntmps70
  go_wp2_with fail
  refine (field_Has.calls b2 s2 d false _ A2.out).mono ?_
  rintro e V ⟨rfl,hb⟩
  clear c0 c1 c2 c3 c4 c5 c6 c7 c8 c9
  obtain ⟨c0,c1,c2,c3,c4,c5,c6,c7,c8,c9⟩ :=Spc.Row.cells (show Spc.Row V g b0 s0 b1 s1 b2 s2 b3 s3 b4 s4 from blk_below HR.out hb)
  have HB2:=below_step HB.out hb
  clear HB hb
  have HB:=Aside0.mk HB2
  clear HB2
  go_wp2_with (go_at_call 42; refine (field_Has.calls b4 s4 k y _ A4.out).mono ?_; rintro e w' ⟨rfl,hb⟩)
  go_ret
  exact ⟨by simp,below_step HB.out hb⟩
set_option maxHeartbeats 4000000 in
set_option maxRecDepth 100000 in
theorem Dy.by2_calls (g:Nat)(b0:Int)(s0:Bool)(b1:Int)(s1:Bool)(b2:Int)(s2:Bool)(b3:Int)(s3:Bool)(b4:Int)(s4:Bool)(d k:Int)(W:World)(hR:Spc.Row W g b0 s0 b1 s1 b2 s2 b3 s3 b4 s4)(h2:Dy.InU b2)(h4:Dy.InU b4) :
  Calls Tryd.prog 71 #[.int .i64 d,.int .i64 k,.pointer (some ⟨g,0,none⟩)] W fun e w'=>e=.returned (.bool (Dy.has b2 d && Dy.has b4 k))∧Below W.heap.size W w':=by
 have HB:=Aside0.mk (Below.refl W.heap.size W)
 have A2:=Lib.hid (Dy.has_f b2 s2 d h2)
 have A4:=Lib.hid (Dy.has_f b4 s4 k h4)
 obtain ⟨c0,c1,c2,c3,c4,c5,c6,c7,c8,c9⟩ :=hR.cells
 have HR:=Aside0.mk hR
 clear hR h2 h4
 obtain ⟨x,hx⟩:∃ x,Dy.has b2 d=x:=⟨_,rfl⟩
 obtain ⟨y,hy⟩:∃ y,Dy.has b4 k=y:=⟨_,rfl⟩
 rw [hx] at A2 ⊢
 rw [hy] at A4 ⊢
 clear hx hy
 cases x with
 | false=>
  go_enter Tryd.func71,Tryd.ntmps71
  go_wp2_with (go_at_call 42; refine (field_Has.calls b2 s2 d false _ A2.out).mono ?_; rintro e w' ⟨rfl,hb⟩)
  go_ret
  exact ⟨rfl,hb⟩
 | true=>
  go_enter Tryd.func71,Tryd.ntmps71
  go_wp2_with fail
  refine (field_Has.calls b2 s2 d true _ A2.out).mono ?_
  rintro e V ⟨rfl,hb⟩
  clear c0 c1 c2 c3 c4 c5 c6 c7 c8 c9
  obtain ⟨c0,c1,c2,c3,c4,c5,c6,c7,c8,c9⟩ :=Spc.Row.cells (show Spc.Row V g b0 s0 b1 s1 b2 s2 b3 s3 b4 s4 from blk_below HR.out hb)
  have HB2:=below_step HB.out hb
  clear HB hb
  have HB:=Aside0.mk HB2
  clear HB2
  go_wp2_with (go_at_call 42; refine (field_Has.calls b4 s4 k y _ A4.out).mono ?_; rintro e w' ⟨rfl,hb⟩)
  go_ret
  exact ⟨by simp,below_step HB.out hb⟩
/-- The closure that by gives. -/
def Dy.byF (s2 s4:Bool)(g:Nat):Value:=if s2=false∧s4=false then .func (.func 70) #[] #[.pointer (some ⟨g,0,none⟩)] else .func (.func 71) #[] #[.pointer (some ⟨g,0,none⟩)]
set_option maxHeartbeats 4000000 in
set_option maxRecDepth 100000 in
theorem Dy.by_calls (b0:Int)(s0:Bool)(b1:Int)(s1:Bool)(b2:Int)(s2:Bool)(b3:Int)(s3:Bool)(b4:Int)(s4:Bool)(W:World) :
  Calls Tryd.prog 43 #[.agg #[.int .u64 b0,.bool s0,.int .u64 b1,.bool s1,.int .u64 b2,.bool s2,.int .u64 b3,.bool s3,.int .u64 b4,.bool s4]] W fun e w'=>e=.returned (Dy.byF s2 s4 W.heap.size)∧Spc.Row w' W.heap.size b0 s0 b1 s1 b2 s2 b3 s3 b4 s4∧Below W.heap.size W w':=by
 have HR:=Aside0.mk (blk_new W (.cells #[.int .u64 b0,.bool s0,.int .u64 b1,.bool s1,.int .u64 b2,.bool s2,.int .u64 b3,.bool s3,.int .u64 b4,.bool s4] 26))
 have HB:=Aside0.mk (below_alloc (Below.refl _ _) (.cells #[.int .u64 b0,.bool s0,.int .u64 b1,.bool s1,.int .u64 b2,.bool s2,.int .u64 b3,.bool s3,.int .u64 b4,.bool s4] 26) (w:=W))
 cases s2 <;> cases s4
 all_goals
  go_enter Tryd.func43,Tryd.ntmps43
  go_wp2
  go_ret
  exact ⟨rfl,HR.out,HB.out⟩
/-! This session's own: unless. -/
set_option maxHeartbeats 4000000 in
set_option maxRecDepth 100000 in
theorem Dy.un32_yes (e:Int)(f:FuncId)(caps:Array Value)(W:World):Calls Tryd.prog 88 #[.bool true,.int .i64 e,.func (.func f) #[] caps] W fun r w'=>r=.returned (.tuple #[.int .u32 0,.int .i64 e])∧W=w':=by
 go_enter Tryd.func88,Tryd.ntmps88
 go_wp2
 go_ret2
 exact ⟨rfl,rfl⟩
set_option maxHeartbeats 4000000 in
set_option maxRecDepth 100000 in
theorem Dy.un32_Mask1 (e:Int)(p0 p1 p2:Addr)(W:World)(m e2:Int)(H:Calls Tryd.prog 89 #[.pointer (some p0),.pointer (some p1),.pointer (some p2)] W fun r w'=>r=.returned (.tuple #[.int .u32 m,.int .i64 e2])∧Below W.heap.size W w') :
  Calls Tryd.prog 88 #[.bool false,.int .i64 e,.func (.func 89) #[] #[.pointer (some p0),.pointer (some p1),.pointer (some p2)]] W fun r w'=>r=.returned (.tuple #[.int .u32 m,.int .i64 e2])∧Below W.heap.size W w':=by
 replace H:=Lib.hid H
 go_enter Tryd.func88,Tryd.ntmps88
 go_wp2_with (go_at_call 89; refine H.out.mono ?_; rintro e w' ⟨rfl,hb⟩)
 go_ret2
 exact ⟨rfl,hb⟩
set_option maxHeartbeats 4000000 in
set_option maxRecDepth 100000 in
theorem Dy.un32_Mask11 (e:Int)(p0 p1 p2 p3:Addr)(W:World)(m e2:Int)(H:Calls Tryd.prog 90 #[.pointer (some p0),.pointer (some p1),.pointer (some p2),.pointer (some p3)] W fun r w'=>r=.returned (.tuple #[.int .u32 m,.int .i64 e2])∧Below W.heap.size W w') :
  Calls Tryd.prog 88 #[.bool false,.int .i64 e,.func (.func 90) #[] #[.pointer (some p0),.pointer (some p1),.pointer (some p2),.pointer (some p3)]] W fun r w'=>r=.returned (.tuple #[.int .u32 m,.int .i64 e2])∧Below W.heap.size W w':=by
 replace H:=Lib.hid H
 go_enter Tryd.func88,Tryd.ntmps88
 go_wp2_with (go_at_call 90; refine H.out.mono ?_; rintro e w' ⟨rfl,hb⟩)
 go_ret2
 exact ⟨rfl,hb⟩
set_option maxHeartbeats 4000000 in
set_option maxRecDepth 100000 in
theorem Dy.unB_yes (e:Int)(f:FuncId)(caps:Array Value)(W:World):Calls Tryd.prog 38 #[.bool true,.int .i64 e,.func (.func f) #[] caps] W fun r w'=>r=.returned (.tuple #[.bool false,.int .i64 e])∧W=w':=by
 go_enter Tryd.func38,Tryd.ntmps38
 go_wp2
 go_ret2
 exact ⟨rfl,rfl⟩
set_option maxHeartbeats 4000000 in
set_option maxRecDepth 100000 in
theorem Dy.unB_Match1 (e:Int)(p0 p1:Addr)(W:World)(m:Bool)(e2:Int)(H:Calls Tryd.prog 40 #[.pointer (some p0),.pointer (some p1)] W fun r w'=>r=.returned (.tuple #[.bool m,.int .i64 e2])∧Below W.heap.size W w') :
  Calls Tryd.prog 38 #[.bool false,.int .i64 e,.func (.func 40) #[] #[.pointer (some p0),.pointer (some p1)]] W fun r w'=>r=.returned (.tuple #[.bool m,.int .i64 e2])∧Below W.heap.size W w':=by
 replace H:=Lib.hid H
 go_enter Tryd.func38,Tryd.ntmps38
 go_wp2_with (go_at_call 40; refine H.out.mono ?_; rintro e w' ⟨rfl,hb⟩)
 go_ret2
 exact ⟨rfl,hb⟩
set_option maxHeartbeats 4000000 in
set_option maxRecDepth 100000 in
theorem Dy.unB_Match11 (e:Int)(p0 p1:Addr)(W:World)(m:Bool)(e2:Int)(H:Calls Tryd.prog 41 #[.pointer (some p0),.pointer (some p1)] W fun r w'=>r=.returned (.tuple #[.bool m,.int .i64 e2])∧Below W.heap.size W w') :
  Calls Tryd.prog 38 #[.bool false,.int .i64 e,.func (.func 41) #[] #[.pointer (some p0),.pointer (some p1)]] W fun r w'=>r=.returned (.tuple #[.bool m,.int .i64 e2])∧Below W.heap.size W w':=by
 replace H:=Lib.hid H
 go_enter Tryd.func38,Tryd.ntmps38
 go_wp2_with (go_at_call 41; refine H.out.mono ?_; rintro e w' ⟨rfl,hb⟩)
 go_ret2
 exact ⟨rfl,hb⟩
set_option maxHeartbeats 4000000 in
set_option maxRecDepth 100000 in
theorem Dy.unI_yes (e:Int)(f:FuncId)(caps:Array Value)(W:World):Calls Tryd.prog 58 #[.bool true,.int .i64 e,.func (.func f) #[] caps] W fun r w'=>r=.returned (.tuple #[.int .i64 0,.int .i64 e])∧W=w':=by
 go_enter Tryd.func58,Tryd.ntmps58
 go_wp2
 go_ret2
 exact ⟨rfl,rfl⟩
set_option maxHeartbeats 4000000 in
set_option maxRecDepth 100000 in
theorem Dy.unI_Minutes1 (e:Int)(p0:Addr)(W:World)(m e2:Int)(H:Calls Tryd.prog 59 #[.pointer (some p0)] W fun r w'=>r=.returned (.tuple #[.int .i64 m,.int .i64 e2])∧Below W.heap.size W w') :
  Calls Tryd.prog 58 #[.bool false,.int .i64 e,.func (.func 59) #[] #[.pointer (some p0)]] W fun r w'=>r=.returned (.tuple #[.int .i64 m,.int .i64 e2])∧Below W.heap.size W w':=by
 replace H:=Lib.hid H
 go_enter Tryd.func58,Tryd.ntmps58
 go_wp2_with (go_at_call 59; refine H.out.mono ?_; rintro e w' ⟨rfl,hb⟩)
 go_ret2
 exact ⟨rfl,hb⟩
/-! This session's own: day.Mask. -/
theorem Dy.len_nat (y m:Int):∃ L:Nat,Civ.len y m=(L:Int)∧L≤31:=by
 have:=Civ.len_bd y m
 exact ⟨(Civ.len y m).toNat,by omega,by omega⟩
theorem Dy.len_f (y m:Int):civil_Length.f y m=some (Civ.len y m):=rfl
set_option maxHeartbeats 8000000 in
set_option maxRecDepth 100000 in
theorem Dy.mask11_1 (gx gm gf gy:Nat)(b0:Int)(s0:Bool)(b1:Int)(s1:Bool)(b2:Int)(s2:Bool)(b3:Int)(s3:Bool)(b4:Int)(s4:Bool)(y m first:Int)(W:World)(hR:Spc.Row W gx b0 s0 b1 s1 b2 s2 b3 s3 b4 s4)(hm:W.heap[gm]?=some (.cells #[.int .i64 m] 3 (0,0)))(hf:W.heap[gf]?=some (.cells #[.int .i64 first] 3 (0,0)))(hy:W.heap[gy]?=some (.cells #[.int .i64 y] 3 (0,0)))
  (h2:Dy.InU b2) (h3:Dy.InU b3) (h4:Dy.InU b4) (hf0:0≤first) (hf1:first≤376199) (hs:s2=false∧s4=false) (hx:Dy.has b3 m=true) :
  Calls Tryd.prog 90 #[.pointer (some ⟨gx,0,none⟩),.pointer (some ⟨gm,0,none⟩),.pointer (some ⟨gf,0,none⟩),.pointer (some ⟨gy,0,none⟩)] W fun e w'=>e=.returned (.tuple #[.int .u32 ((Dy.maskN (Dy.dayP b2 s2 b4 s4 first) (Civ.len y m).toNat:Nat):Int),.int .i64 0])∧Below W.heap.size W w':=by
 obtain ⟨L,hL,hL31⟩ :=Dy.len_nat y m
 rw [hL,Int.toNat_natCast]
 have AL:=Lib.hid ((Dy.len_f y m).trans (congrArg some hL))
 have A3:=Lib.hid ((Dy.has_f b3 s3 m h3).trans (congrArg some hx))
 have AW:Hid (civil_Week.f first=some ((first+4) % 7,0)):=Lib.hid (by rw [Civ.week_f,Civ.week,if_neg (by omega)])
 have HB:=Aside0.mk (Below.refl W.heap.size W)
 obtain ⟨c0,c1,c2,c3,c4,c5,c6,c7,c8,c9⟩ :=hR.cells
 have d0:W.cell? ⟨gm,0,none⟩=some (.int .i64 m):=(blk_cell hm 0).trans rfl
 have HR:=Aside0.mk hR
 have HM:=Aside0.mk hm
 have HF:=Aside0.mk hf
 have HY:=Aside0.mk hy
 replace hs:=Lib.hid hs
 replace h2:=Lib.hid h2
 replace h4:=Lib.hid h4
 have hwk0:0≤(first+4) % 7:=by omega
 have hwk1:(first+4) % 7≤6:=by omega
 have hP:Hid (∀ j:Nat,Dy.dayP b2 s2 b4 s4 first j=Dy.by_ b2 s2 b4 s4 ((j:Int)+1) (((first+4) % 7+(j:Int)) % 7)):=Lib.hid (fun j=>rfl)
 obtain ⟨wk,hwk⟩:∃ wk,(first+4) % 7=wk:=⟨_,rfl⟩
 rw [hwk] at AW hwk0 hwk1 hP
 clear hR hm hf hy hf0 hf1 hL hx h3 hwk
 obtain ⟨p,hp⟩:∃ p,Dy.dayP b2 s2 b4 s4 first=p:=⟨_,rfl⟩
 rw [hp] at hP ⊢
 clear hp
 go_enter Tryd.func90,Tryd.ntmps90
 go_wp2_with fail
 refine (field_Has.calls b3 s3 m true _ A3.out).mono ?_
 rintro e V ⟨rfl,hb⟩
 have HR2:Spc.Row V gx b0 s0 b1 s1 b2 s2 b3 s3 b4 s4:=blk_below HR.out hb
 have HM2:=blk_below HM.out hb
 have HF2:=blk_below HF.out hb
 have HY2:=blk_below HY.out hb
 have HB2:=below_step HB.out hb
 clear HR HM HF HY HB hb c0 c1 c2 c3 c4 c5 c6 c7 c8 c9 d0
 obtain ⟨c0,c1,c2,c3,c4,c5,c6,c7,c8,c9⟩ :=HR2.cells
 have d1:V.cell? ⟨gf,0,none⟩=some (.int .i64 first):=(blk_cell HF2 0).trans rfl
 replace HM2:=Aside0.mk HM2
 replace HY2:=Aside0.mk HY2
 replace HB2:=Aside0.mk HB2
 clear HR2 HF2
 go_wp2_with (go_at_call 57; refine (civil_Week.calls first wk 0 _ AW.out).mono ?_; rintro e w' ⟨rfl,⟨nd,rfl⟩⟩)
 refine (Dy.by_calls b0 s0 b1 s1 b2 s2 b3 s3 b4 s4 _).mono ?_
 rintro e V2 ⟨rfl,HR3,hb⟩
 rw [Dy.byF,if_pos hs.out]
 have HM3:=blk_below (blk_drewN HM2.out nd) hb
 have HY3:=blk_below (blk_drewN HY2.out nd) hb
 have HB3:=below_step (pw_below_drewN HB2.out nd) hb
 clear HM2 HY2 HB2 hb c0 c1 c2 c3 c4 c5 c6 c7 c8 c9 d1
 obtain ⟨g,hg⟩:∃ g,(V.drewN nd).heap.size=g:=⟨_,rfl⟩
 rw [hg] at HR3 ⊢
 clear hg
 have d2:V2.cell? ⟨gm,0,none⟩=some (.int .i64 m):=(blk_cell HM3 0).trans rfl
 have d3:V2.cell? ⟨gy,0,none⟩=some (.int .i64 y):=(blk_cell HY3 0).trans rfl
 replace HR3:=Aside0.mk HR3
 replace HB3:=Aside0.mk HB3
 clear HM3 HY3
 go_wp2_with (go_at_call 91; refine (civil_Length.calls y m _ _ AL.out).mono ?_; rintro e w' ⟨rfl,⟨nd2,rfl⟩⟩)
 have HR4:Aside0 (Spc.Row (V2.drewN nd2) g b0 s0 b1 s1 b2 s2 b3 s3 b4 s4):=Aside0.mk (blk_drewN HR3.out nd2)
 have HB4:Aside0 (Below W.heap.size W (V2.drewN nd2)):=Aside0.mk (pw_below_drewN HB3.out nd2)
 clear HR3 HB3 d2 d3
 generalize V2.drewN nd2=V3 at HR4 HB4 ⊢
 go_loopw [9,26] (fun mk i wr=>∃ j:Nat,j≤L∧i=.int .i64 (j:Int)∧mk=.int .u32 ((Dy.maskN p j:Nat):Int)∧Aside0 (Spc.Row wr g b0 s0 b1 s1 b2 s2 b3 s3 b4 s4)∧Aside0 (Below W.heap.size W wr)) (fun _ i _=>L - (intOf i).toNat)
 case atStart=>exact ⟨0,Nat.zero_le _,rfl,rfl,HR4,HB4⟩
 case round=>
  clear HR4 HB4
  obtain ⟨j,hj,rfl,rfl,HR5,HB5⟩ :=hrel
  by_cases hlt:j < L
  ·have CC:Hid (Calls Tryd.prog 70 #[.int .i64 ((j:Int)+1),.int .i64 ((wk+(j:Int)) % 7),.pointer (some ⟨g,0,none⟩)] wr fun e w'=>e=.returned (.bool (p j))∧Below wr.heap.size wr w'):=Lib.hid (by
    rw [hP.out j,Dy.by_,if_pos hs.out]
    exact Dy.by1_calls g b0 s0 b1 s1 b2 s2 b3 s3 b4 s4 _ _ wr HR5.out h2.out h4.out)
   have hst:Hid (p j=true→Go.bits .or .u32 (Dy.maskN p j:Int) (2*2 ^ j % 4294967296)=(Dy.maskN p (j+1):Int)):=Lib.hid (fun h=>Dy.mask_step2 p j (by omega) h)
   have hke:Hid (p j=false→Dy.maskN p (j+1)=Dy.maskN p j):=Lib.hid (fun h=>Dy.mask_keep p j h)
   cases hpj:p j
   all_goals
    rw [hpj] at CC
    replace hpj:=Lib.hid hpj
    go_wp2_with (go_at_call 70; refine CC.out.mono ?_; rintro e w' ⟨rfl,hb⟩)
    have HR6:Aside0 (Spc.Row w' g b0 s0 b1 s1 b2 s2 b3 s3 b4 s4):=Aside0.mk (blk_below HR5.out hb)
    have HB6:=Aside0.mk (below_step HB5.out hb)
    go_roundw
    case rel=>first | exact ⟨j+1,by omega,by go_num,by rw [hke.out hpj.out],HR6,HB6⟩ | exact ⟨j+1,by omega,by go_num,by rw [← hst.out hpj.out],HR6,HB6⟩
    case measure=>simp [intOf]; omega
  ·have hjL:j=L:=by omega
   subst hjL
   go_wp2
   go_ret2
   exact ⟨rfl,HB5.out⟩
set_option maxHeartbeats 8000000 in
set_option maxRecDepth 100000 in
theorem Dy.mask11_2 (gx gm gf gy:Nat)(b0:Int)(s0:Bool)(b1:Int)(s1:Bool)(b2:Int)(s2:Bool)(b3:Int)(s3:Bool)(b4:Int)(s4:Bool)(y m first:Int)(W:World)(hR:Spc.Row W gx b0 s0 b1 s1 b2 s2 b3 s3 b4 s4)(hm:W.heap[gm]?=some (.cells #[.int .i64 m] 3 (0,0)))(hf:W.heap[gf]?=some (.cells #[.int .i64 first] 3 (0,0)))(hy:W.heap[gy]?=some (.cells #[.int .i64 y] 3 (0,0)))
  (h2:Dy.InU b2) (h3:Dy.InU b3) (h4:Dy.InU b4) (hf0:0≤first) (hf1:first≤376199) (hs:¬ (s2=false∧s4=false)) (hx:Dy.has b3 m=true) :
  Calls Tryd.prog 90 #[.pointer (some ⟨gx,0,none⟩),.pointer (some ⟨gm,0,none⟩),.pointer (some ⟨gf,0,none⟩),.pointer (some ⟨gy,0,none⟩)] W fun e w'=>e=.returned (.tuple #[.int .u32 ((Dy.maskN (Dy.dayP b2 s2 b4 s4 first) (Civ.len y m).toNat:Nat):Int),.int .i64 0])∧Below W.heap.size W w':=by
 obtain ⟨L,hL,hL31⟩ :=Dy.len_nat y m
 rw [hL,Int.toNat_natCast]
 have AL:=Lib.hid ((Dy.len_f y m).trans (congrArg some hL))
 have A3:=Lib.hid ((Dy.has_f b3 s3 m h3).trans (congrArg some hx))
 have AW:Hid (civil_Week.f first=some ((first+4) % 7,0)):=Lib.hid (by rw [Civ.week_f,Civ.week,if_neg (by omega)])
 have HB:=Aside0.mk (Below.refl W.heap.size W)
 obtain ⟨c0,c1,c2,c3,c4,c5,c6,c7,c8,c9⟩ :=hR.cells
 have d0:W.cell? ⟨gm,0,none⟩=some (.int .i64 m):=(blk_cell hm 0).trans rfl
 have HR:=Aside0.mk hR
 have HM:=Aside0.mk hm
 have HF:=Aside0.mk hf
 have HY:=Aside0.mk hy
 replace hs:=Lib.hid hs
 replace h2:=Lib.hid h2
 replace h4:=Lib.hid h4
 have hwk0:0≤(first+4) % 7:=by omega
 have hwk1:(first+4) % 7≤6:=by omega
 have hP:Hid (∀ j:Nat,Dy.dayP b2 s2 b4 s4 first j=Dy.by_ b2 s2 b4 s4 ((j:Int)+1) (((first+4) % 7+(j:Int)) % 7)):=Lib.hid (fun j=>rfl)
 obtain ⟨wk,hwk⟩:∃ wk,(first+4) % 7=wk:=⟨_,rfl⟩
 rw [hwk] at AW hwk0 hwk1 hP
 clear hR hm hf hy hf0 hf1 hL hx h3 hwk
 obtain ⟨p,hp⟩:∃ p,Dy.dayP b2 s2 b4 s4 first=p:=⟨_,rfl⟩
 rw [hp] at hP ⊢
 clear hp
 go_enter Tryd.func90,Tryd.ntmps90
 go_wp2_with fail
 refine (field_Has.calls b3 s3 m true _ A3.out).mono ?_
 rintro e V ⟨rfl,hb⟩
 have HR2:Spc.Row V gx b0 s0 b1 s1 b2 s2 b3 s3 b4 s4:=blk_below HR.out hb
 have HM2:=blk_below HM.out hb
 have HF2:=blk_below HF.out hb
 have HY2:=blk_below HY.out hb
 have HB2:=below_step HB.out hb
 clear HR HM HF HY HB hb c0 c1 c2 c3 c4 c5 c6 c7 c8 c9 d0
 obtain ⟨c0,c1,c2,c3,c4,c5,c6,c7,c8,c9⟩ :=HR2.cells
 have d1:V.cell? ⟨gf,0,none⟩=some (.int .i64 first):=(blk_cell HF2 0).trans rfl
 replace HM2:=Aside0.mk HM2
 replace HY2:=Aside0.mk HY2
 replace HB2:=Aside0.mk HB2
 clear HR2 HF2
 go_wp2_with (go_at_call 57; refine (civil_Week.calls first wk 0 _ AW.out).mono ?_; rintro e w' ⟨rfl,⟨nd,rfl⟩⟩)
 refine (Dy.by_calls b0 s0 b1 s1 b2 s2 b3 s3 b4 s4 _).mono ?_
 rintro e V2 ⟨rfl,HR3,hb⟩
 rw [Dy.byF,if_neg hs.out]
 have HM3:=blk_below (blk_drewN HM2.out nd) hb
 have HY3:=blk_below (blk_drewN HY2.out nd) hb
 have HB3:=below_step (pw_below_drewN HB2.out nd) hb
 clear HM2 HY2 HB2 hb c0 c1 c2 c3 c4 c5 c6 c7 c8 c9 d1
 obtain ⟨g,hg⟩:∃ g,(V.drewN nd).heap.size=g:=⟨_,rfl⟩
 rw [hg] at HR3 ⊢
 clear hg
 have d2:V2.cell? ⟨gm,0,none⟩=some (.int .i64 m):=(blk_cell HM3 0).trans rfl
 have d3:V2.cell? ⟨gy,0,none⟩=some (.int .i64 y):=(blk_cell HY3 0).trans rfl
 replace HR3:=Aside0.mk HR3
 replace HB3:=Aside0.mk HB3
 clear HM3 HY3
 go_wp2_with (go_at_call 91; refine (civil_Length.calls y m _ _ AL.out).mono ?_; rintro e w' ⟨rfl,⟨nd2,rfl⟩⟩)
 have HR4:Aside0 (Spc.Row (V2.drewN nd2) g b0 s0 b1 s1 b2 s2 b3 s3 b4 s4):=Aside0.mk (blk_drewN HR3.out nd2)
 have HB4:Aside0 (Below W.heap.size W (V2.drewN nd2)):=Aside0.mk (pw_below_drewN HB3.out nd2)
 clear HR3 HB3 d2 d3
 generalize V2.drewN nd2=V3 at HR4 HB4 ⊢
 go_loopw [9,26] (fun mk i wr=>∃ j:Nat,j≤L∧i=.int .i64 (j:Int)∧mk=.int .u32 ((Dy.maskN p j:Nat):Int)∧Aside0 (Spc.Row wr g b0 s0 b1 s1 b2 s2 b3 s3 b4 s4)∧Aside0 (Below W.heap.size W wr)) (fun _ i _=>L - (intOf i).toNat)
 case atStart=>exact ⟨0,Nat.zero_le _,rfl,rfl,HR4,HB4⟩
 case round=>
  clear HR4 HB4
  obtain ⟨j,hj,rfl,rfl,HR5,HB5⟩ :=hrel
  by_cases hlt:j < L
  ·have CC:Hid (Calls Tryd.prog 71 #[.int .i64 ((j:Int)+1),.int .i64 ((wk+(j:Int)) % 7),.pointer (some ⟨g,0,none⟩)] wr fun e w'=>e=.returned (.bool (p j))∧Below wr.heap.size wr w'):=Lib.hid (by
    rw [hP.out j,Dy.by_,if_neg hs.out]
    exact Dy.by2_calls g b0 s0 b1 s1 b2 s2 b3 s3 b4 s4 _ _ wr HR5.out h2.out h4.out)
   have hst:Hid (p j=true→Go.bits .or .u32 (Dy.maskN p j:Int) (2*2 ^ j % 4294967296)=(Dy.maskN p (j+1):Int)):=Lib.hid (fun h=>Dy.mask_step2 p j (by omega) h)
   have hke:Hid (p j=false→Dy.maskN p (j+1)=Dy.maskN p j):=Lib.hid (fun h=>Dy.mask_keep p j h)
   cases hpj:p j
   all_goals
    rw [hpj] at CC
    replace hpj:=Lib.hid hpj
    go_wp2_with (go_at_call 71; refine CC.out.mono ?_; rintro e w' ⟨rfl,hb⟩)
    have HR6:Aside0 (Spc.Row w' g b0 s0 b1 s1 b2 s2 b3 s3 b4 s4):=Aside0.mk (blk_below HR5.out hb)
    have HB6:=Aside0.mk (below_step HB5.out hb)
    go_roundw
    case rel=>first | exact ⟨j+1,by omega,by go_num,by rw [hke.out hpj.out],HR6,HB6⟩ | exact ⟨j+1,by omega,by go_num,by rw [← hst.out hpj.out],HR6,HB6⟩
    case measure=>simp [intOf]; omega
  ·have hjL:j=L:=by omega
   subst hjL
   go_wp2
   go_ret2
   exact ⟨rfl,HB5.out⟩
set_option maxHeartbeats 8000000 in
set_option maxRecDepth 100000 in
theorem Dy.mask11_0 (gx gm gf gy:Nat)(b0:Int)(s0:Bool)(b1:Int)(s1:Bool)(b2:Int)(s2:Bool)(b3:Int)(s3:Bool)(b4:Int)(s4:Bool)(y m first:Int)(W:World)(hR:Spc.Row W gx b0 s0 b1 s1 b2 s2 b3 s3 b4 s4)(hm:W.heap[gm]?=some (.cells #[.int .i64 m] 3 (0,0)))
  (h3:Dy.InU b3) (hx:Dy.has b3 m=false) :
  Calls Tryd.prog 90 #[.pointer (some ⟨gx,0,none⟩),.pointer (some ⟨gm,0,none⟩),.pointer (some ⟨gf,0,none⟩),.pointer (some ⟨gy,0,none⟩)] W fun e w'=>e=.returned (.tuple #[.int .u32 0,.int .i64 0])∧Below W.heap.size W w':=by
 have A3:=Lib.hid ((Dy.has_f b3 s3 m h3).trans (congrArg some hx))
 obtain ⟨c0,c1,c2,c3,c4,c5,c6,c7,c8,c9⟩ :=hR.cells
 have d0:W.cell? ⟨gm,0,none⟩=some (.int .i64 m):=(blk_cell hm 0).trans rfl
 clear hR hm hx h3
 go_enter Tryd.func90,Tryd.ntmps90
 go_wp2_with (go_at_call 42; refine (field_Has.calls b3 s3 m false _ A3.out).mono ?_; rintro e w' ⟨rfl,hb⟩)
 go_ret2
 exact ⟨rfl,hb⟩
def Dy.mask1 (b2:Int)(s2:Bool)(b3 b4:Int)(s4:Bool)(y m:Int):Int × Int:=
 if (Civ.day y m 1).2≠0 then (0,1) else if Dy.has b3 m=true then (((Dy.maskN (Dy.dayP b2 s2 b4 s4 (Civ.day y m 1).1) (Civ.len y m).toNat:Nat):Int),0) else (0,0)
theorem Dy.mask11 (gx gm gf gy:Nat)(b0:Int)(s0:Bool)(b1:Int)(s1:Bool)(b2:Int)(s2:Bool)(b3:Int)(s3:Bool)(b4:Int)(s4:Bool)(y m first:Int)(W:World)(hR:Spc.Row W gx b0 s0 b1 s1 b2 s2 b3 s3 b4 s4)(hm:W.heap[gm]?=some (.cells #[.int .i64 m] 3 (0,0)))(hf:W.heap[gf]?=some (.cells #[.int .i64 first] 3 (0,0)))(hy:W.heap[gy]?=some (.cells #[.int .i64 y] 3 (0,0)))
  (h2:Dy.InU b2) (h3:Dy.InU b3) (h4:Dy.InU b4) (hf0:0≤first) (hf1:first≤376199) :
  Calls Tryd.prog 90 #[.pointer (some ⟨gx,0,none⟩),.pointer (some ⟨gm,0,none⟩),.pointer (some ⟨gf,0,none⟩),.pointer (some ⟨gy,0,none⟩)] W fun e w'=>e=.returned (.tuple #[.int .u32 (if Dy.has b3 m=true then ((Dy.maskN (Dy.dayP b2 s2 b4 s4 first) (Civ.len y m).toNat:Nat):Int) else 0),.int .i64 0])∧Below W.heap.size W w':=by
 cases hx:Dy.has b3 m with
 | false=>
  rw [if_neg (by decide)]
  exact Dy.mask11_0 gx gm gf gy b0 s0 b1 s1 b2 s2 b3 s3 b4 s4 y m first W hR hm h3 hx
 | true=>
  rw [if_pos rfl]
  by_cases hs:s2=false∧s4=false
  ·exact Dy.mask11_1 gx gm gf gy b0 s0 b1 s1 b2 s2 b3 s3 b4 s4 y m first W hR hm hf hy h2 h3 h4 hf0 hf1 hs hx
  ·exact Dy.mask11_2 gx gm gf gy b0 s0 b1 s1 b2 s2 b3 s3 b4 s4 y m first W hR hm hf hy h2 h3 h4 hf0 hf1 hs hx
set_option maxHeartbeats 8000000 in
set_option maxRecDepth 100000 in
theorem Dy.mask1_calls (gx gm gy:Nat)(b0:Int)(s0:Bool)(b1:Int)(s1:Bool)(b2:Int)(s2:Bool)(b3:Int)(s3:Bool)(b4:Int)(s4:Bool)(y m:Int)(W:World)(hR:Spc.Row W gx b0 s0 b1 s1 b2 s2 b3 s3 b4 s4)(hm:W.heap[gm]?=some (.cells #[.int .i64 m] 3 (0,0)))(hy:W.heap[gy]?=some (.cells #[.int .i64 y] 3 (0,0)))
  (h2:Dy.InU b2) (h3:Dy.InU b3) (h4:Dy.InU b4) :
  Calls Tryd.prog 89 #[.pointer (some ⟨gy,0,none⟩),.pointer (some ⟨gm,0,none⟩),.pointer (some ⟨gx,0,none⟩)] W fun e w'=>e=.returned (.tuple #[.int .u32 (Dy.mask1 b2 s2 b3 b4 s4 y m).1,.int .i64 (Dy.mask1 b2 s2 b3 b4 s4 y m).2])∧Below W.heap.size W w':=by
 obtain ⟨first,e0,hd⟩:∃ f e,Civ.day y m 1=(f,e):=⟨_,_,rfl⟩
 have hbd:=Civ.day_bd y m 1
 have hM:Dy.mask1 b2 s2 b3 b4 s4 y m=if e0≠0 then (0,1) else if Dy.has b3 m=true then (((Dy.maskN (Dy.dayP b2 s2 b4 s4 first) (Civ.len y m).toNat:Nat):Int),0) else (0,0):=by unfold Dy.mask1; rw [hd]
 rw [hd] at hbd
 have AD:=Lib.hid ((Civ.day_f y m 1 100 (Nat.le_refl _)).trans (congrArg some hd))
 rw [hM]
 have HB:=Aside0.mk (Below.refl W.heap.size W)
 have d0:W.cell? ⟨gm,0,none⟩=some (.int .i64 m):=(blk_cell hm 0).trans rfl
 have d1:W.cell? ⟨gy,0,none⟩=some (.int .i64 y):=(blk_cell hy 0).trans rfl
 have HR:=Aside0.mk hR
 have HM:=Aside0.mk hm
 have HY:=Aside0.mk hy
 replace h2:=Lib.hid h2
 replace h3:=Lib.hid h3
 replace h4:=Lib.hid h4
 replace hbd:=Lib.hid hbd
 clear hR hm hy hd hM
 by_cases he:e0=0
 ·subst he
  rw [if_neg (by decide)]
  obtain ⟨R,hRR⟩:∃ R:Int,(if Dy.has b3 m=true then ((Dy.maskN (Dy.dayP b2 s2 b4 s4 first) (Civ.len y m).toNat:Nat):Int) else 0)=R:=⟨_,rfl⟩
  have hpair:(if Dy.has b3 m=true then (((Dy.maskN (Dy.dayP b2 s2 b4 s4 first) (Civ.len y m).toNat:Nat):Int),(0:Int)) else (0,0))=(R,0):=by rw [← hRR]; split <;> rfl
  rw [hpair]
  replace hRR:=Lib.hid hRR
  clear hpair
  go_enter Tryd.func89,Tryd.ntmps89
  go_wp2_with fail
  refine (civil_Day.calls 100 y m 1 first 0 _ AD.out).mono ?_
  rintro e w' ⟨rfl,⟨nd,rfl⟩⟩
  have HR2:Aside0 (Spc.Row (W.drewN nd) gx b0 s0 b1 s1 b2 s2 b3 s3 b4 s4):=Aside0.mk (blk_drewN HR.out nd)
  have HM2:=Aside0.mk (blk_drewN HM.out nd)
  have HY2:=Aside0.mk (blk_drewN HY.out nd)
  have HB2:=Aside0.mk (pw_below_drewN HB.out nd)
  clear d0 d1 HR HM HY HB AD
  generalize W.drewN nd=V at HR2 HM2 HY2 HB2 ⊢
  go_wp2_with fail
  refine (Dy.un32_Mask11 1 ⟨gx,0,none⟩ ⟨gm,0,none⟩ _ ⟨gy,0,none⟩ _ R 0 ?_).mono ?_
  ·rw [← hRR.out]
   exact Dy.mask11 gx gm _ gy b0 s0 b1 s1 b2 s2 b3 s3 b4 s4 y m first _ (blk_alloc HR2.out _) (blk_alloc HM2.out _) (blk_new V _) (blk_alloc HY2.out _) h2.out h3.out h4.out hbd.out.1 hbd.out.2
  ·rintro e w' ⟨rfl,hb⟩
   have HB3:=Aside0.mk (below_step (below_alloc HB2.out _) hb)
   clear HB2 hb HR2 HM2 HY2
   go_wp2_with fail
   go_ret2
   exact ⟨rfl,HB3.out⟩
 ·rw [if_pos he]
  have q1:(e0 == 0)=false:=by simpa using he
  have q2:(e0 != 0)=true:=by simpa using he
  replace he:=Lib.hid he
  go_enter Tryd.func89,Tryd.ntmps89
  go_wp2_with fail
  refine (civil_Day.calls 100 y m 1 first e0 _ AD.out).mono ?_
  rintro e w' ⟨rfl,⟨nd,rfl⟩⟩
  have HB2:=Aside0.mk (pw_below_drewN HB.out nd)
  clear d0 d1 HR HM HY HB AD
  generalize W.drewN nd=V at HB2 ⊢
  go_wp2_with fail
  refine (Dy.un32_yes 1 _ _ _).mono ?_
  rintro e w' ⟨rfl,rfl⟩
  have HB3:=Aside0.mk (below_alloc HB2.out (.cells #[.int .i64 first] 3))
  clear HB2
  go_wp2_with fail
  go_ret2
  exact ⟨rfl,HB3.out⟩
def Dy.Cv (W:World)(g:Nat)(cy cm cd ch cn cw:Int):Prop:=W.heap[g]?=some (.cells #[.int .i64 cy,.int .i64 cm,.int .i64 cd,.int .i64 ch,.int .i64 cn,.int .i64 cw] 66 (0,0))
theorem Dy.SM_of {W:World}{gx gc:Nat}{b0:Int}{s0:Bool}{b1:Int}{s1:Bool}{b2:Int}{s2:Bool}{b3:Int}{s3:Bool}{b4:Int}{s4:Bool}{cy cm cd ch cn cw:Int}(hR:Aside0 (Spc.Row W gx b0 s0 b1 s1 b2 s2 b3 s3 b4 s4))(hC:Aside0 (Dy.Cv W gc cy cm cd ch cn cw)) :
  W.cell? ⟨gx,0,none⟩=some (.int .u64 b0)∧W.cell? ⟨gx,1,none⟩=some (.bool s0)∧W.cell? ⟨gx,2,none⟩=some (.int .u64 b1)∧W.cell? ⟨gx,3,none⟩=some (.bool s1)∧W.cell? ⟨gx,4,none⟩=some (.int .u64 b2)∧W.cell? ⟨gx,5,none⟩=some (.bool s2)∧W.cell? ⟨gx,6,none⟩=some (.int .u64 b3)∧W.cell? ⟨gx,7,none⟩=some (.bool s3)∧W.cell? ⟨gx,8,none⟩=some (.int .u64 b4)∧W.cell? ⟨gx,9,none⟩=some (.bool s4)∧W.cell? ⟨gc,0,none⟩=some (.int .i64 cy)∧W.cell? ⟨gc,1,none⟩=some (.int .i64 cm)∧W.cell? ⟨gc,2,none⟩=some (.int .i64 cd)∧W.cell? ⟨gc,3,none⟩=some (.int .i64 ch)∧W.cell? ⟨gc,4,none⟩=some (.int .i64 cn)∧W.cell? ⟨gc,5,none⟩=some (.int .i64 cw):=by
 obtain ⟨c0,c1,c2,c3,c4,c5,c6,c7,c8,c9⟩ :=hR.out.cells
 have h:=hC.out
 exact ⟨c0,c1,c2,c3,c4,c5,c6,c7,c8,c9,(blk_cell h 0).trans rfl,(blk_cell h 1).trans rfl,(blk_cell h 2).trans rfl,(blk_cell h 3).trans rfl,(blk_cell h 4).trans rfl,(blk_cell h 5).trans rfl⟩
theorem Dy.stepR {W w':World}{g:Nat}{b0:Int}{s0:Bool}{b1:Int}{s1:Bool}{b2:Int}{s2:Bool}{b3:Int}{s3:Bool}{b4:Int}{s4:Bool}(hR:Aside0 (Spc.Row W g b0 s0 b1 s1 b2 s2 b3 s3 b4 s4))(hb:Below W.heap.size W w'):Aside0 (Spc.Row w' g b0 s0 b1 s1 b2 s2 b3 s3 b4 s4):=Aside0.mk (blk_below hR.out hb)
theorem Dy.stepC {W w':World}{g:Nat}{cy cm cd ch cn cw:Int}(hR:Aside0 (Dy.Cv W g cy cm cd ch cn cw))(hb:Below W.heap.size W w'):Aside0 (Dy.Cv w' g cy cm cd ch cn cw):=Aside0.mk (blk_below hR.out hb)
theorem Dy.stepB {W V w':World}(hR:Aside0 (Below W.heap.size W V))(hb:Below V.heap.size V w'):Aside0 (Below W.heap.size W w'):=Aside0.mk (below_step hR.out hb)
theorem Dy.by_calls1 (b0:Int)(s0:Bool)(b1:Int)(s1:Bool)(b2:Int)(s2:Bool)(b3:Int)(s3:Bool)(b4:Int)(s4:Bool)(hs:s2=false∧s4=false)(W:World) :
  Calls Tryd.prog 43 #[.agg #[.int .u64 b0,.bool s0,.int .u64 b1,.bool s1,.int .u64 b2,.bool s2,.int .u64 b3,.bool s3,.int .u64 b4,.bool s4]] W fun e w'=>e=.returned (.func (.func 70) #[] #[.pointer (some ⟨W.heap.size,0,none⟩)])∧Aside0 (Spc.Row w' W.heap.size b0 s0 b1 s1 b2 s2 b3 s3 b4 s4)∧Below W.heap.size W w':=
 (Dy.by_calls b0 s0 b1 s1 b2 s2 b3 s3 b4 s4 W).mono fun _ _ h=>⟨by rw [h.1,Dy.byF,if_pos hs],Aside0.mk h.2.1,h.2.2⟩
theorem Dy.by_calls2 (b0:Int)(s0:Bool)(b1:Int)(s1:Bool)(b2:Int)(s2:Bool)(b3:Int)(s3:Bool)(b4:Int)(s4:Bool)(hs:¬ (s2=false∧s4=false))(W:World) :
  Calls Tryd.prog 43 #[.agg #[.int .u64 b0,.bool s0,.int .u64 b1,.bool s1,.int .u64 b2,.bool s2,.int .u64 b3,.bool s3,.int .u64 b4,.bool s4]] W fun e w'=>e=.returned (.func (.func 71) #[] #[.pointer (some ⟨W.heap.size,0,none⟩)])∧Aside0 (Spc.Row w' W.heap.size b0 s0 b1 s1 b2 s2 b3 s3 b4 s4)∧Below W.heap.size W w':=
 (Dy.by_calls b0 s0 b1 s1 b2 s2 b3 s3 b4 s4 W).mono fun _ _ h=>⟨by rw [h.1,Dy.byF,if_neg hs],Aside0.mk h.2.1,h.2.2⟩
set_option maxHeartbeats 8000000 in
set_option maxRecDepth 100000 in
theorem Dy.match_0 (gx gc:Nat)(b0:Int)(s0:Bool)(b1:Int)(s1:Bool)(b2:Int)(s2:Bool)(b3:Int)(s3:Bool)(b4:Int)(s4:Bool)(cy cm cd ch cn cw:Int)(W:World)(hR:Spc.Row W gx b0 s0 b1 s1 b2 s2 b3 s3 b4 s4)(hC:Dy.Cv W gc cy cm cd ch cn cw)(h0:Dy.InU b0)(h1:Dy.InU b1)(h2:Dy.InU b2)(h3:Dy.InU b3)(h4:Dy.InU b4)  (e3:Dy.has b3 cm=false) :
  Calls Tryd.prog 41 #[.pointer (some ⟨gx,0,none⟩),.pointer (some ⟨gc,0,none⟩)] W fun e w'=>e=.returned (.tuple #[.bool false,.int .i64 0])∧Below W.heap.size W w':=by
 have A3:=Lib.hid ((Dy.has_f b3 s3 cm h3).trans (congrArg some e3))
 have HR:=Aside0.mk hR
 have HC:=Aside0.mk hC
 have HB:=Aside0.mk (Below.refl W.heap.size W)
 have HRd:Aside0 (Spc.Row W.drew gx b0 s0 b1 s1 b2 s2 b3 s3 b4 s4):=Aside0.mk (blk_drew hR)
 have HCd:Aside0 (Dy.Cv W.drew gc cy cm cd ch cn cw):=Aside0.mk (blk_drew hC)
 have HBd:Aside0 (Below W.heap.size W W.drew):=Aside0.mk (below_drew1 HB.out)
 clear hR hC h0 h1 h2 h3 h4 e3 HR HC HB
 obtain ⟨k0,k1,k2,k3,k4,k5,k6,k7,k8,k9,q0,q1,q2,q3,q4,q5⟩ :=Dy.SM_of HRd HCd
 go_enter Tryd.func41,Tryd.ntmps41
 go_wp2
 refine start_ (n:=30) (S:=fun w'=>w'.cell? ⟨gx,0,none⟩=some (.int .u64 b0)∧w'.cell? ⟨gx,1,none⟩=some (.bool s0)∧w'.cell? ⟨gx,2,none⟩=some (.int .u64 b1)∧w'.cell? ⟨gx,3,none⟩=some (.bool s1)∧w'.cell? ⟨gx,4,none⟩=some (.int .u64 b2)∧w'.cell? ⟨gx,5,none⟩=some (.bool s2)∧w'.cell? ⟨gx,6,none⟩=some (.int .u64 b3)∧w'.cell? ⟨gx,7,none⟩=some (.bool s3)∧w'.cell? ⟨gx,8,none⟩=some (.int .u64 b4)∧w'.cell? ⟨gx,9,none⟩=some (.bool s4)∧w'.cell? ⟨gc,0,none⟩=some (.int .i64 cy)∧w'.cell? ⟨gc,1,none⟩=some (.int .i64 cm)∧w'.cell? ⟨gc,2,none⟩=some (.int .i64 cd)∧w'.cell? ⟨gc,3,none⟩=some (.int .i64 ch)∧w'.cell? ⟨gc,4,none⟩=some (.int .i64 cn)∧w'.cell? ⟨gc,5,none⟩=some (.int .i64 cw)) (ds:=[]) #[F_,F_,F_,F_,F_,F_,F_,F_,F_,F_,F_,F_,F_,F_,F_,F_,F_,F_,F_,F_,F_,F_,F_,F_,F_,F_,F_,F_,F_,F_] (by kernel_rfl) rfl rfl ⟨k0,k1,k2,k3,k4,k5,k6,k7,k8,k9,q0,q1,q2,q3,q4,q5⟩ (fun hHeld=>?_)
 refine pure_ (i:=0) (N:=some 4) (v:=?_) (a':=?_) #[T_,F_,F_,F_,F_,F_,F_,F_,F_,F_,F_,F_,F_,F_,F_,F_,F_,F_,F_,F_,F_,F_,F_,F_,F_,F_,F_,F_,F_,F_] rfl rfl (by kernel_rfl) (fun _ _ _ h=>h) (Or.inl ⟨by rfl,?_⟩) ?_ ?_
 rotate_left
 ·intro w'
  go_simp
  with_reducible rfl
 rotate_left
 ·simp only [Act.put,List.setIfInBounds_toArray,List.set_cons_zero,List.set_cons_succ,i64_w,i32_w]
  rfl
 refine pure_ (i:=2) (N:=some 6) (v:=?_) (a':=?_) #[T_,F_,T_,F_,F_,F_,F_,F_,F_,F_,F_,F_,F_,F_,F_,F_,F_,F_,F_,F_,F_,F_,F_,F_,F_,F_,F_,F_,F_,F_] rfl rfl (by kernel_rfl) (fun _ _ _ h=>h) (Or.inl ⟨by rfl,?_⟩) ?_ ?_
 rotate_left
 ·intro w'
  go_simp
  with_reducible rfl
 rotate_left
 ·simp only [Act.put,List.setIfInBounds_toArray,List.set_cons_zero,List.set_cons_succ,i64_w,i32_w]
  rfl
 refine take_ (i:=1) (N:=some 5) (v:=?_) (a':=?_) #[T_,T_,T_,F_,F_,F_,F_,F_,F_,F_,F_,F_,F_,F_,F_,F_,F_,F_,F_,F_,F_,F_,F_,F_,F_,F_,F_,F_,F_,F_] rfl rfl (by kernel_rfl) (fun _ _ _ h=>h) (Or.inl ⟨by rfl,?_⟩) hHeld ?_ ?_
 rotate_left
 ·rintro w' ⟨s0,s1,s2,s3,s4,s5,s6,s7,s8,s9,s10,s11,s12,s13,s14,s15⟩
  go_simp
  with_reducible rfl
 rotate_left
 ·simp only [Act.put,List.setIfInBounds_toArray,List.set_cons_zero,List.set_cons_succ,i64_w,i32_w]
  rfl
 refine take_ (i:=3) (N:=some 7) (v:=?_) (a':=?_) #[T_,T_,T_,T_,F_,F_,F_,F_,F_,F_,F_,F_,F_,F_,F_,F_,F_,F_,F_,F_,F_,F_,F_,F_,F_,F_,F_,F_,F_,F_] rfl rfl (by kernel_rfl) (fun _ _ _ h=>h) (Or.inl ⟨by rfl,?_⟩) hHeld ?_ ?_
 rotate_left
 ·rintro w' ⟨s0,s1,s2,s3,s4,s5,s6,s7,s8,s9,s10,s11,s12,s13,s14,s15⟩
  go_simp
  with_reducible rfl
 rotate_left
 ·simp only [Act.put,List.setIfInBounds_toArray,List.set_cons_zero,List.set_cons_succ,i64_w,i32_w]
  rfl
 refine one_ (i:=4) (N:=some 8) #[T_,T_,T_,T_,T_,F_,F_,F_,F_,F_,F_,F_,F_,F_,F_,F_,F_,F_,F_,F_,F_,F_,F_,F_,F_,F_,F_,F_,F_,F_] rfl rfl (by kernel_rfl) (by decide) (fun K hK=>?_)
 refine goes_ Tryd.func42 (by kernel_rfl) rfl #[.agg #[.int .u64 b3,.bool s3],.int .i64 cm] (by rfl) rfl rfl (by simp only [List.map_toArray,List.map_cons,List.map_nil]; rfl) ?_
 with_reducible refine (field_Has.calls b3 s3 cm false _ A3.out).mono ?_
 rintro e w3 ⟨rfl,hb⟩
 refine ⟨_,rfl,?_⟩
 have R_:Aside0 (Spc.Row w3 gx b0 s0 b1 s1 b2 s2 b3 s3 b4 s4):=Dy.stepR (by assumption) hb
 have C_:Aside0 (Dy.Cv w3 gc cy cm cd ch cn cw):=Dy.stepC (by assumption) hb
 have B_:Aside0 (Below W.heap.size W w3):=Dy.stepB (by assumption) hb
 clear hb
 obtain ⟨k0,k1,k2,k3,k4,k5,k6,k7,k8,k9,q0,q1,q2,q3,q4,q5⟩ :=Dy.SM_of R_ C_
 refine hK.out _ _ ⟨k0,k1,k2,k3,k4,k5,k6,k7,k8,k9,q0,q1,q2,q3,q4,q5⟩ (fun hHeld=>?_)
 clear hK K
 refine norm_ (a':=?_) ?_ ?_
 rotate_left
 ·show Act.put _ (some 8) _=_
  simp only [Act.put,List.setIfInBounds_toArray,List.set_cons_zero,List.set_cons_succ,i64_w,i32_w]
  rfl
 refine pure_ (i:=5) (N:=some 9) (v:=?_) (a':=?_) #[T_,T_,T_,T_,T_,T_,F_,F_,F_,F_,F_,F_,F_,F_,F_,F_,F_,F_,F_,F_,F_,F_,F_,F_,F_,F_,F_,F_,F_,F_] rfl rfl (by kernel_rfl) (fun _ _ _ h=>h) (Or.inl ⟨by rfl,?_⟩) ?_ ?_
 rotate_left
 ·intro w'
  go_simp
  with_reducible rfl
 rotate_left
 ·simp only [Act.put,List.setIfInBounds_toArray,List.set_cons_zero,List.set_cons_succ,i64_w,i32_w]
  rfl
 refine pure_ (i:=6) (N:=some 10) (v:=undef) (a':=?_) #[T_,T_,T_,T_,T_,T_,T_,F_,F_,F_,F_,F_,F_,F_,F_,F_,F_,F_,F_,F_,F_,F_,F_,F_,F_,F_,F_,F_,F_,F_] rfl rfl (by kernel_rfl) (fun _ _ _ h=>h) (Or.inr ⟨by rfl,rfl⟩) ?_ ?_
 rotate_left
 ·simp only [Act.put,List.setIfInBounds_toArray,List.set_cons_zero,List.set_cons_succ,i64_w,i32_w]
  rfl
 refine pure_ (i:=7) (N:=some 11) (v:=undef) (a':=?_) #[T_,T_,T_,T_,T_,T_,T_,T_,F_,F_,F_,F_,F_,F_,F_,F_,F_,F_,F_,F_,F_,F_,F_,F_,F_,F_,F_,F_,F_,F_] rfl rfl (by kernel_rfl) (fun _ _ _ h=>h) (Or.inr ⟨by rfl,rfl⟩) ?_ ?_
 rotate_left
 ·simp only [Act.put,List.setIfInBounds_toArray,List.set_cons_zero,List.set_cons_succ,i64_w,i32_w]
  rfl
 refine pure_ (i:=8) (N:=some 12) (v:=undef) (a':=?_) #[T_,T_,T_,T_,T_,T_,T_,T_,T_,F_,F_,F_,F_,F_,F_,F_,F_,F_,F_,F_,F_,F_,F_,F_,F_,F_,F_,F_,F_,F_] rfl rfl (by kernel_rfl) (fun _ _ _ h=>h) (Or.inr ⟨by rfl,rfl⟩) ?_ ?_
 rotate_left
 ·simp only [Act.put,List.setIfInBounds_toArray,List.set_cons_zero,List.set_cons_succ,i64_w,i32_w]
  rfl
 refine pure_ (i:=9) (N:=some 13) (v:=undef) (a':=?_) #[T_,T_,T_,T_,T_,T_,T_,T_,T_,T_,F_,F_,F_,F_,F_,F_,F_,F_,F_,F_,F_,F_,F_,F_,F_,F_,F_,F_,F_,F_] rfl rfl (by kernel_rfl) (fun _ _ _ h=>h) (Or.inr ⟨by rfl,rfl⟩) ?_ ?_
 rotate_left
 ·simp only [Act.put,List.setIfInBounds_toArray,List.set_cons_zero,List.set_cons_succ,i64_w,i32_w]
  rfl
 refine pure_ (i:=10) (N:=some 14) (v:=undef) (a':=?_) #[T_,T_,T_,T_,T_,T_,T_,T_,T_,T_,T_,F_,F_,F_,F_,F_,F_,F_,F_,F_,F_,F_,F_,F_,F_,F_,F_,F_,F_,F_] rfl rfl (by kernel_rfl) (fun _ _ _ h=>h) (Or.inr ⟨by rfl,rfl⟩) ?_ ?_
 rotate_left
 ·simp only [Act.put,List.setIfInBounds_toArray,List.set_cons_zero,List.set_cons_succ,i64_w,i32_w]
  rfl
 refine pure_ (i:=11) (N:=some 15) (v:=undef) (a':=?_) #[T_,T_,T_,T_,T_,T_,T_,T_,T_,T_,T_,T_,F_,F_,F_,F_,F_,F_,F_,F_,F_,F_,F_,F_,F_,F_,F_,F_,F_,F_] rfl rfl (by kernel_rfl) (fun _ _ _ h=>h) (Or.inr ⟨by rfl,rfl⟩) ?_ ?_
 rotate_left
 ·simp only [Act.put,List.setIfInBounds_toArray,List.set_cons_zero,List.set_cons_succ,i64_w,i32_w]
  rfl
 refine pure_ (i:=12) (N:=some 16) (v:=undef) (a':=?_) #[T_,T_,T_,T_,T_,T_,T_,T_,T_,T_,T_,T_,T_,F_,F_,F_,F_,F_,F_,F_,F_,F_,F_,F_,F_,F_,F_,F_,F_,F_] rfl rfl (by kernel_rfl) (fun _ _ _ h=>h) (Or.inr ⟨by rfl,rfl⟩) ?_ ?_
 rotate_left
 ·simp only [Act.put,List.setIfInBounds_toArray,List.set_cons_zero,List.set_cons_succ,i64_w,i32_w]
  rfl
 refine pure_ (i:=13) (N:=some 17) (v:=?_) (a':=?_) #[T_,T_,T_,T_,T_,T_,T_,T_,T_,T_,T_,T_,T_,T_,F_,F_,F_,F_,F_,F_,F_,F_,F_,F_,F_,F_,F_,F_,F_,F_] rfl rfl (by kernel_rfl) (fun _ _ _ h=>h) (Or.inl ⟨by rfl,?_⟩) ?_ ?_
 rotate_left
 ·intro w'
  go_simp
  with_reducible rfl
 rotate_left
 ·simp only [Act.put,List.setIfInBounds_toArray,List.set_cons_zero,List.set_cons_succ,i64_w,i32_w]
  rfl
 refine pure_ (i:=14) (N:=some 18) (v:=?_) (a':=?_) #[T_,T_,T_,T_,T_,T_,T_,T_,T_,T_,T_,T_,T_,T_,T_,F_,F_,F_,F_,F_,F_,F_,F_,F_,F_,F_,F_,F_,F_,F_] rfl rfl (by kernel_rfl) (fun _ _ _ h=>h) (Or.inl ⟨by rfl,?_⟩) ?_ ?_
 rotate_left
 ·intro w'
  go_simp
  with_reducible rfl
 rotate_left
 ·simp only [Act.put,List.setIfInBounds_toArray,List.set_cons_zero,List.set_cons_succ,i64_w,i32_w]
  rfl
 refine pure_ (i:=15) (N:=some 19) (v:=undef) (a':=?_) #[T_,T_,T_,T_,T_,T_,T_,T_,T_,T_,T_,T_,T_,T_,T_,T_,F_,F_,F_,F_,F_,F_,F_,F_,F_,F_,F_,F_,F_,F_] rfl rfl (by kernel_rfl) (fun _ _ _ h=>h) (Or.inr ⟨by rfl,rfl⟩) ?_ ?_
 rotate_left
 ·simp only [Act.put,List.setIfInBounds_toArray,List.set_cons_zero,List.set_cons_succ,i64_w,i32_w]
  rfl
 refine pure_ (i:=16) (N:=some 20) (v:=undef) (a':=?_) #[T_,T_,T_,T_,T_,T_,T_,T_,T_,T_,T_,T_,T_,T_,T_,T_,T_,F_,F_,F_,F_,F_,F_,F_,F_,F_,F_,F_,F_,F_] rfl rfl (by kernel_rfl) (fun _ _ _ h=>h) (Or.inr ⟨by rfl,rfl⟩) ?_ ?_
 rotate_left
 ·simp only [Act.put,List.setIfInBounds_toArray,List.set_cons_zero,List.set_cons_succ,i64_w,i32_w]
  rfl
 refine pure_ (i:=17) (N:=some 21) (v:=undef) (a':=?_) #[T_,T_,T_,T_,T_,T_,T_,T_,T_,T_,T_,T_,T_,T_,T_,T_,T_,T_,F_,F_,F_,F_,F_,F_,F_,F_,F_,F_,F_,F_] rfl rfl (by kernel_rfl) (fun _ _ _ h=>h) (Or.inr ⟨by rfl,rfl⟩) ?_ ?_
 rotate_left
 ·simp only [Act.put,List.setIfInBounds_toArray,List.set_cons_zero,List.set_cons_succ,i64_w,i32_w]
  rfl
 refine pure_ (i:=18) (N:=some 22) (v:=undef) (a':=?_) #[T_,T_,T_,T_,T_,T_,T_,T_,T_,T_,T_,T_,T_,T_,T_,T_,T_,T_,T_,F_,F_,F_,F_,F_,F_,F_,F_,F_,F_,F_] rfl rfl (by kernel_rfl) (fun _ _ _ h=>h) (Or.inr ⟨by rfl,rfl⟩) ?_ ?_
 rotate_left
 ·simp only [Act.put,List.setIfInBounds_toArray,List.set_cons_zero,List.set_cons_succ,i64_w,i32_w]
  rfl
 refine pure_ (i:=19) (N:=some 23) (v:=undef) (a':=?_) #[T_,T_,T_,T_,T_,T_,T_,T_,T_,T_,T_,T_,T_,T_,T_,T_,T_,T_,T_,T_,F_,F_,F_,F_,F_,F_,F_,F_,F_,F_] rfl rfl (by kernel_rfl) (fun _ _ _ h=>h) (Or.inr ⟨by rfl,rfl⟩) ?_ ?_
 rotate_left
 ·simp only [Act.put,List.setIfInBounds_toArray,List.set_cons_zero,List.set_cons_succ,i64_w,i32_w]
  rfl
 refine pure_ (i:=20) (N:=some 24) (v:=?_) (a':=?_) #[T_,T_,T_,T_,T_,T_,T_,T_,T_,T_,T_,T_,T_,T_,T_,T_,T_,T_,T_,T_,T_,F_,F_,F_,F_,F_,F_,F_,F_,F_] rfl rfl (by kernel_rfl) (fun _ _ _ h=>h) (Or.inl ⟨by rfl,?_⟩) ?_ ?_
 rotate_left
 ·intro w'
  go_simp
  with_reducible rfl
 rotate_left
 ·simp only [Act.put,List.setIfInBounds_toArray,List.set_cons_zero,List.set_cons_succ,i64_w,i32_w]
  rfl
 refine pure_ (i:=21) (N:=some 25) (v:=?_) (a':=?_) #[T_,T_,T_,T_,T_,T_,T_,T_,T_,T_,T_,T_,T_,T_,T_,T_,T_,T_,T_,T_,T_,T_,F_,F_,F_,F_,F_,F_,F_,F_] rfl rfl (by kernel_rfl) (fun _ _ _ h=>h) (Or.inl ⟨by rfl,?_⟩) ?_ ?_
 rotate_left
 ·intro w'
  go_simp
  with_reducible rfl
 rotate_left
 ·simp only [Act.put,List.setIfInBounds_toArray,List.set_cons_zero,List.set_cons_succ,i64_w,i32_w]
  rfl
 refine pure_ (i:=22) (N:=some 26) (v:=undef) (a':=?_) #[T_,T_,T_,T_,T_,T_,T_,T_,T_,T_,T_,T_,T_,T_,T_,T_,T_,T_,T_,T_,T_,T_,T_,F_,F_,F_,F_,F_,F_,F_] rfl rfl (by kernel_rfl) (fun _ _ _ h=>h) (Or.inr ⟨by rfl,rfl⟩) ?_ ?_
 rotate_left
 ·simp only [Act.put,List.setIfInBounds_toArray,List.set_cons_zero,List.set_cons_succ,i64_w,i32_w]
  rfl
 refine pure_ (i:=23) (N:=some 27) (v:=undef) (a':=?_) #[T_,T_,T_,T_,T_,T_,T_,T_,T_,T_,T_,T_,T_,T_,T_,T_,T_,T_,T_,T_,T_,T_,T_,T_,F_,F_,F_,F_,F_,F_] rfl rfl (by kernel_rfl) (fun _ _ _ h=>h) (Or.inr ⟨by rfl,rfl⟩) ?_ ?_
 rotate_left
 ·simp only [Act.put,List.setIfInBounds_toArray,List.set_cons_zero,List.set_cons_succ,i64_w,i32_w]
  rfl
 refine pure_ (i:=24) (N:=some 28) (v:=undef) (a':=?_) #[T_,T_,T_,T_,T_,T_,T_,T_,T_,T_,T_,T_,T_,T_,T_,T_,T_,T_,T_,T_,T_,T_,T_,T_,T_,F_,F_,F_,F_,F_] rfl rfl (by kernel_rfl) (fun _ _ _ h=>h) (Or.inr ⟨by rfl,rfl⟩) ?_ ?_
 rotate_left
 ·simp only [Act.put,List.setIfInBounds_toArray,List.set_cons_zero,List.set_cons_succ,i64_w,i32_w]
  rfl
 refine pure_ (i:=25) (N:=some 29) (v:=undef) (a':=?_) #[T_,T_,T_,T_,T_,T_,T_,T_,T_,T_,T_,T_,T_,T_,T_,T_,T_,T_,T_,T_,T_,T_,T_,T_,T_,T_,F_,F_,F_,F_] rfl rfl (by kernel_rfl) (fun _ _ _ h=>h) (Or.inr ⟨by rfl,rfl⟩) ?_ ?_
 rotate_left
 ·simp only [Act.put,List.setIfInBounds_toArray,List.set_cons_zero,List.set_cons_succ,i64_w,i32_w]
  rfl
 refine pure_ (i:=26) (N:=some 30) (v:=undef) (a':=?_) #[T_,T_,T_,T_,T_,T_,T_,T_,T_,T_,T_,T_,T_,T_,T_,T_,T_,T_,T_,T_,T_,T_,T_,T_,T_,T_,T_,F_,F_,F_] rfl rfl (by kernel_rfl) (fun _ _ _ h=>h) (Or.inr ⟨by rfl,rfl⟩) ?_ ?_
 rotate_left
 ·simp only [Act.put,List.setIfInBounds_toArray,List.set_cons_zero,List.set_cons_succ,i64_w,i32_w]
  rfl
 refine pure_ (i:=27) (N:=some 31) (v:=?_) (a':=?_) #[T_,T_,T_,T_,T_,T_,T_,T_,T_,T_,T_,T_,T_,T_,T_,T_,T_,T_,T_,T_,T_,T_,T_,T_,T_,T_,T_,T_,F_,F_] rfl rfl (by kernel_rfl) (fun _ _ _ h=>h) (Or.inl ⟨by rfl,?_⟩) ?_ ?_
 rotate_left
 ·intro w'
  go_simp
  with_reducible rfl
 rotate_left
 ·simp only [Act.put,List.setIfInBounds_toArray,List.set_cons_zero,List.set_cons_succ,i64_w,i32_w]
  rfl
 refine pure_ (i:=28) (N:=some 2) (v:=?_) (a':=?_) #[T_,T_,T_,T_,T_,T_,T_,T_,T_,T_,T_,T_,T_,T_,T_,T_,T_,T_,T_,T_,T_,T_,T_,T_,T_,T_,T_,T_,T_,F_] rfl rfl (by kernel_rfl) (fun _ _ _ h=>h) (Or.inl ⟨by rfl,?_⟩) ?_ ?_
 rotate_left
 ·intro w'
  go_simp
  with_reducible rfl
 rotate_left
 ·simp only [Act.put,List.setIfInBounds_toArray,List.set_cons_zero,List.set_cons_succ,i64_w,i32_w]
  rfl
 refine pure_ (i:=29) (N:=some 3) (v:=?_) (a':=?_) #[T_,T_,T_,T_,T_,T_,T_,T_,T_,T_,T_,T_,T_,T_,T_,T_,T_,T_,T_,T_,T_,T_,T_,T_,T_,T_,T_,T_,T_,T_] rfl rfl (by kernel_rfl) (fun _ _ _ h=>h) (Or.inl ⟨by rfl,?_⟩) ?_ ?_
 rotate_left
 ·intro w'
  go_simp
  with_reducible rfl
 rotate_left
 ·simp only [Act.put,List.setIfInBounds_toArray,List.set_cons_zero,List.set_cons_succ,i64_w,i32_w]
  rfl
 refine done_ (by kernel_rfl) ?_
 go_wp2
 go_ret2
 exact ⟨rfl,B_.out⟩
set_option maxHeartbeats 8000000 in
set_option maxRecDepth 100000 in
theorem Dy.match_f (gx gc:Nat)(b0:Int)(s0:Bool)(b1:Int)(s1:Bool)(b2:Int)(s2:Bool)(b3:Int)(s3:Bool)(b4:Int)(s4:Bool)(cy cm cd ch cn cw:Int)(W:World)(hR:Spc.Row W gx b0 s0 b1 s1 b2 s2 b3 s3 b4 s4)(hC:Dy.Cv W gc cy cm cd ch cn cw)(h0:Dy.InU b0)(h1:Dy.InU b1)(h2:Dy.InU b2)(h3:Dy.InU b3)(h4:Dy.InU b4)(f:FuncId)(he_:∀ (V:World) (xs:Array Value),(callFunc f xs).run Tryd.prog V=.ok (.enter f xs) V)
  (BY:∀ V:World,Calls Tryd.prog 43 #[.agg #[.int .u64 b0,.bool s0,.int .u64 b1,.bool s1,.int .u64 b2,.bool s2,.int .u64 b3,.bool s3,.int .u64 b4,.bool s4]] V fun e w'=>e=.returned (.func (.func f) #[] #[.pointer (some ⟨V.heap.size,0,none⟩)])∧Aside0 (Spc.Row w' V.heap.size b0 s0 b1 s1 b2 s2 b3 s3 b4 s4)∧Below V.heap.size V w')
  (CC:∀ (g:Nat) (V:World),Aside0 (Spc.Row V g b0 s0 b1 s1 b2 s2 b3 s3 b4 s4)→Calls Tryd.prog f #[.int .i64 cd,.int .i64 cw,.pointer (some ⟨g,0,none⟩)] V fun e w'=>e=.returned (.bool false)∧Below V.heap.size V w') (e3:Dy.has b3 cm=true) :
  Calls Tryd.prog 41 #[.pointer (some ⟨gx,0,none⟩),.pointer (some ⟨gc,0,none⟩)] W fun e w'=>e=.returned (.tuple #[.bool false,.int .i64 0])∧Below W.heap.size W w':=by
 have A3:=Lib.hid ((Dy.has_f b3 s3 cm h3).trans (congrArg some e3))
 replace CC:=Lib.hid CC
 replace BY:=Lib.hid BY
 replace he_:=Lib.hid he_
 have HR:=Aside0.mk hR
 have HC:=Aside0.mk hC
 have HB:=Aside0.mk (Below.refl W.heap.size W)
 have HRd:Aside0 (Spc.Row W.drew gx b0 s0 b1 s1 b2 s2 b3 s3 b4 s4):=Aside0.mk (blk_drew hR)
 have HCd:Aside0 (Dy.Cv W.drew gc cy cm cd ch cn cw):=Aside0.mk (blk_drew hC)
 have HBd:Aside0 (Below W.heap.size W W.drew):=Aside0.mk (below_drew1 HB.out)
 clear hR hC h0 h1 h2 h3 h4 e3 HR HC HB
 obtain ⟨k0,k1,k2,k3,k4,k5,k6,k7,k8,k9,q0,q1,q2,q3,q4,q5⟩ :=Dy.SM_of HRd HCd
 go_enter Tryd.func41,Tryd.ntmps41
 go_wp2
 refine start_ (n:=30) (S:=fun w'=>w'.cell? ⟨gx,0,none⟩=some (.int .u64 b0)∧w'.cell? ⟨gx,1,none⟩=some (.bool s0)∧w'.cell? ⟨gx,2,none⟩=some (.int .u64 b1)∧w'.cell? ⟨gx,3,none⟩=some (.bool s1)∧w'.cell? ⟨gx,4,none⟩=some (.int .u64 b2)∧w'.cell? ⟨gx,5,none⟩=some (.bool s2)∧w'.cell? ⟨gx,6,none⟩=some (.int .u64 b3)∧w'.cell? ⟨gx,7,none⟩=some (.bool s3)∧w'.cell? ⟨gx,8,none⟩=some (.int .u64 b4)∧w'.cell? ⟨gx,9,none⟩=some (.bool s4)∧w'.cell? ⟨gc,0,none⟩=some (.int .i64 cy)∧w'.cell? ⟨gc,1,none⟩=some (.int .i64 cm)∧w'.cell? ⟨gc,2,none⟩=some (.int .i64 cd)∧w'.cell? ⟨gc,3,none⟩=some (.int .i64 ch)∧w'.cell? ⟨gc,4,none⟩=some (.int .i64 cn)∧w'.cell? ⟨gc,5,none⟩=some (.int .i64 cw)) (ds:=[]) #[F_,F_,F_,F_,F_,F_,F_,F_,F_,F_,F_,F_,F_,F_,F_,F_,F_,F_,F_,F_,F_,F_,F_,F_,F_,F_,F_,F_,F_,F_] (by kernel_rfl) rfl rfl ⟨k0,k1,k2,k3,k4,k5,k6,k7,k8,k9,q0,q1,q2,q3,q4,q5⟩ (fun hHeld=>?_)
 refine pure_ (i:=0) (N:=some 4) (v:=?_) (a':=?_) #[T_,F_,F_,F_,F_,F_,F_,F_,F_,F_,F_,F_,F_,F_,F_,F_,F_,F_,F_,F_,F_,F_,F_,F_,F_,F_,F_,F_,F_,F_] rfl rfl (by kernel_rfl) (fun _ _ _ h=>h) (Or.inl ⟨by rfl,?_⟩) ?_ ?_
 rotate_left
 ·intro w'
  go_simp
  with_reducible rfl
 rotate_left
 ·simp only [Act.put,List.setIfInBounds_toArray,List.set_cons_zero,List.set_cons_succ,i64_w,i32_w]
  rfl
 refine pure_ (i:=2) (N:=some 6) (v:=?_) (a':=?_) #[T_,F_,T_,F_,F_,F_,F_,F_,F_,F_,F_,F_,F_,F_,F_,F_,F_,F_,F_,F_,F_,F_,F_,F_,F_,F_,F_,F_,F_,F_] rfl rfl (by kernel_rfl) (fun _ _ _ h=>h) (Or.inl ⟨by rfl,?_⟩) ?_ ?_
 rotate_left
 ·intro w'
  go_simp
  with_reducible rfl
 rotate_left
 ·simp only [Act.put,List.setIfInBounds_toArray,List.set_cons_zero,List.set_cons_succ,i64_w,i32_w]
  rfl
 refine take_ (i:=1) (N:=some 5) (v:=?_) (a':=?_) #[T_,T_,T_,F_,F_,F_,F_,F_,F_,F_,F_,F_,F_,F_,F_,F_,F_,F_,F_,F_,F_,F_,F_,F_,F_,F_,F_,F_,F_,F_] rfl rfl (by kernel_rfl) (fun _ _ _ h=>h) (Or.inl ⟨by rfl,?_⟩) hHeld ?_ ?_
 rotate_left
 ·rintro w' ⟨s0,s1,s2,s3,s4,s5,s6,s7,s8,s9,s10,s11,s12,s13,s14,s15⟩
  go_simp
  with_reducible rfl
 rotate_left
 ·simp only [Act.put,List.setIfInBounds_toArray,List.set_cons_zero,List.set_cons_succ,i64_w,i32_w]
  rfl
 refine take_ (i:=3) (N:=some 7) (v:=?_) (a':=?_) #[T_,T_,T_,T_,F_,F_,F_,F_,F_,F_,F_,F_,F_,F_,F_,F_,F_,F_,F_,F_,F_,F_,F_,F_,F_,F_,F_,F_,F_,F_] rfl rfl (by kernel_rfl) (fun _ _ _ h=>h) (Or.inl ⟨by rfl,?_⟩) hHeld ?_ ?_
 rotate_left
 ·rintro w' ⟨s0,s1,s2,s3,s4,s5,s6,s7,s8,s9,s10,s11,s12,s13,s14,s15⟩
  go_simp
  with_reducible rfl
 rotate_left
 ·simp only [Act.put,List.setIfInBounds_toArray,List.set_cons_zero,List.set_cons_succ,i64_w,i32_w]
  rfl
 refine one_ (i:=4) (N:=some 8) #[T_,T_,T_,T_,T_,F_,F_,F_,F_,F_,F_,F_,F_,F_,F_,F_,F_,F_,F_,F_,F_,F_,F_,F_,F_,F_,F_,F_,F_,F_] rfl rfl (by kernel_rfl) (by decide) (fun K hK=>?_)
 refine goes_ Tryd.func42 (by kernel_rfl) rfl #[.agg #[.int .u64 b3,.bool s3],.int .i64 cm] (by rfl) rfl rfl (by simp only [List.map_toArray,List.map_cons,List.map_nil]; rfl) ?_
 with_reducible refine (field_Has.calls b3 s3 cm true _ A3.out).mono ?_
 rintro e w3 ⟨rfl,hb⟩
 refine ⟨_,rfl,?_⟩
 have R_:Aside0 (Spc.Row w3 gx b0 s0 b1 s1 b2 s2 b3 s3 b4 s4):=Dy.stepR (by assumption) hb
 have C_:Aside0 (Dy.Cv w3 gc cy cm cd ch cn cw):=Dy.stepC (by assumption) hb
 have B_:Aside0 (Below W.heap.size W w3):=Dy.stepB (by assumption) hb
 clear hb
 obtain ⟨k0,k1,k2,k3,k4,k5,k6,k7,k8,k9,q0,q1,q2,q3,q4,q5⟩ :=Dy.SM_of R_ C_
 refine hK.out _ _ ⟨k0,k1,k2,k3,k4,k5,k6,k7,k8,k9,q0,q1,q2,q3,q4,q5⟩ (fun hHeld=>?_)
 clear hK K
 refine norm_ (a':=?_) ?_ ?_
 rotate_left
 ·show Act.put _ (some 8) _=_
  simp only [Act.put,List.setIfInBounds_toArray,List.set_cons_zero,List.set_cons_succ,i64_w,i32_w]
  rfl
 refine pure_ (i:=5) (N:=some 9) (v:=?_) (a':=?_) #[T_,T_,T_,T_,T_,T_,F_,F_,F_,F_,F_,F_,F_,F_,F_,F_,F_,F_,F_,F_,F_,F_,F_,F_,F_,F_,F_,F_,F_,F_] rfl rfl (by kernel_rfl) (fun _ _ _ h=>h) (Or.inl ⟨by rfl,?_⟩) ?_ ?_
 rotate_left
 ·intro w'
  go_simp
  with_reducible rfl
 rotate_left
 ·simp only [Act.put,List.setIfInBounds_toArray,List.set_cons_zero,List.set_cons_succ,i64_w,i32_w]
  rfl
 refine pure_ (i:=8) (N:=some 12) (v:=?_) (a':=?_) #[T_,T_,T_,T_,T_,T_,F_,F_,T_,F_,F_,F_,F_,F_,F_,F_,F_,F_,F_,F_,F_,F_,F_,F_,F_,F_,F_,F_,F_,F_] rfl rfl (by kernel_rfl) (fun _ _ _ h=>h) (Or.inl ⟨by rfl,?_⟩) ?_ ?_
 rotate_left
 ·intro w'
  go_simp
  with_reducible rfl
 rotate_left
 ·simp only [Act.put,List.setIfInBounds_toArray,List.set_cons_zero,List.set_cons_succ,i64_w,i32_w]
  rfl
 refine pure_ (i:=10) (N:=some 14) (v:=?_) (a':=?_) #[T_,T_,T_,T_,T_,T_,F_,F_,T_,F_,T_,F_,F_,F_,F_,F_,F_,F_,F_,F_,F_,F_,F_,F_,F_,F_,F_,F_,F_,F_] rfl rfl (by kernel_rfl) (fun _ _ _ h=>h) (Or.inl ⟨by rfl,?_⟩) ?_ ?_
 rotate_left
 ·intro w'
  go_simp
  with_reducible rfl
 rotate_left
 ·simp only [Act.put,List.setIfInBounds_toArray,List.set_cons_zero,List.set_cons_succ,i64_w,i32_w]
  rfl
 refine take_ (i:=6) (N:=some 10) (v:=?_) (a':=?_) #[T_,T_,T_,T_,T_,T_,T_,F_,T_,F_,T_,F_,F_,F_,F_,F_,F_,F_,F_,F_,F_,F_,F_,F_,F_,F_,F_,F_,F_,F_] rfl rfl (by kernel_rfl) (fun _ _ _ h=>h) (Or.inl ⟨by rfl,?_⟩) hHeld ?_ ?_
 rotate_left
 ·rintro w' ⟨s0,s1,s2,s3,s4,s5,s6,s7,s8,s9,s10,s11,s12,s13,s14,s15⟩
  go_simp
  with_reducible rfl
 rotate_left
 ·simp only [Act.put,List.setIfInBounds_toArray,List.set_cons_zero,List.set_cons_succ,i64_w,i32_w]
  rfl
 refine take_ (i:=9) (N:=some 13) (v:=?_) (a':=?_) #[T_,T_,T_,T_,T_,T_,T_,F_,T_,T_,T_,F_,F_,F_,F_,F_,F_,F_,F_,F_,F_,F_,F_,F_,F_,F_,F_,F_,F_,F_] rfl rfl (by kernel_rfl) (fun _ _ _ h=>h) (Or.inl ⟨by rfl,?_⟩) hHeld ?_ ?_
 rotate_left
 ·rintro w' ⟨s0,s1,s2,s3,s4,s5,s6,s7,s8,s9,s10,s11,s12,s13,s14,s15⟩
  go_simp
  with_reducible rfl
 rotate_left
 ·simp only [Act.put,List.setIfInBounds_toArray,List.set_cons_zero,List.set_cons_succ,i64_w,i32_w]
  rfl
 refine take_ (i:=11) (N:=some 15) (v:=?_) (a':=?_) #[T_,T_,T_,T_,T_,T_,T_,F_,T_,T_,T_,T_,F_,F_,F_,F_,F_,F_,F_,F_,F_,F_,F_,F_,F_,F_,F_,F_,F_,F_] rfl rfl (by kernel_rfl) (fun _ _ _ h=>h) (Or.inl ⟨by rfl,?_⟩) hHeld ?_ ?_
 rotate_left
 ·rintro w' ⟨s0,s1,s2,s3,s4,s5,s6,s7,s8,s9,s10,s11,s12,s13,s14,s15⟩
  go_simp
  with_reducible rfl
 rotate_left
 ·simp only [Act.put,List.setIfInBounds_toArray,List.set_cons_zero,List.set_cons_succ,i64_w,i32_w]
  rfl
 refine one_ (i:=7) (N:=some 11) #[T_,T_,T_,T_,T_,T_,T_,T_,T_,T_,T_,T_,F_,F_,F_,F_,F_,F_,F_,F_,F_,F_,F_,F_,F_,F_,F_,F_,F_,F_] rfl rfl (by kernel_rfl) (by decide) (fun K hK=>?_)
 refine goes_ Tryd.func43 (by kernel_rfl) rfl #[.agg #[.int .u64 b0,.bool s0,.int .u64 b1,.bool s1,.int .u64 b2,.bool s2,.int .u64 b3,.bool s3,.int .u64 b4,.bool s4]] (by rfl) rfl rfl (by simp only [List.map_toArray,List.map_cons,List.map_nil]; rfl) ?_
 with_reducible refine (BY.out _).mono ?_
 rintro e w3 ⟨rfl,HG,hb⟩
 refine ⟨_,rfl,?_⟩
 have R_:Aside0 (Spc.Row w3 gx b0 s0 b1 s1 b2 s2 b3 s3 b4 s4):=Dy.stepR (by assumption) hb
 have C_:Aside0 (Dy.Cv w3 gc cy cm cd ch cn cw):=Dy.stepC (by assumption) hb
 have B_:Aside0 (Below W.heap.size W w3):=Dy.stepB (by assumption) hb
 clear hb
 obtain ⟨k0,k1,k2,k3,k4,k5,k6,k7,k8,k9,q0,q1,q2,q3,q4,q5⟩ :=Dy.SM_of R_ C_
 refine hK.out _ _ ⟨k0,k1,k2,k3,k4,k5,k6,k7,k8,k9,q0,q1,q2,q3,q4,q5⟩ (fun hHeld=>?_)
 clear hK K
 refine norm_ (a':=?_) ?_ ?_
 rotate_left
 ·show Act.put _ (some 11) _=_
  simp only [Act.put,List.setIfInBounds_toArray,List.set_cons_zero,List.set_cons_succ,i64_w,i32_w]
  rfl
 refine one_ (i:=12) (N:=some 16) #[T_,T_,T_,T_,T_,T_,T_,T_,T_,T_,T_,T_,T_,F_,F_,F_,F_,F_,F_,F_,F_,F_,F_,F_,F_,F_,F_,F_,F_,F_] rfl rfl (by kernel_rfl) (by decide) (fun K hK=>?_)
 have hE_:=he_.out
 refine call_ f #[.int .i64 cd,.int .i64 cw,.pointer (some ⟨_,0,none⟩)] (by rfl) rfl (by unfold execOp; simp [resolve,Deferred.ofValue,invoke,Act.eval,hE_]; rfl) ?_
 clear hE_
 with_reducible refine (CC.out _ _ HG).mono ?_
 rintro e w3 ⟨rfl,hb⟩
 refine ⟨_,rfl,?_⟩
 have R_:Aside0 (Spc.Row w3 gx b0 s0 b1 s1 b2 s2 b3 s3 b4 s4):=Dy.stepR (by assumption) hb
 have C_:Aside0 (Dy.Cv w3 gc cy cm cd ch cn cw):=Dy.stepC (by assumption) hb
 have B_:Aside0 (Below W.heap.size W w3):=Dy.stepB (by assumption) hb
 clear hb
 obtain ⟨k0,k1,k2,k3,k4,k5,k6,k7,k8,k9,q0,q1,q2,q3,q4,q5⟩ :=Dy.SM_of R_ C_
 refine hK.out _ _ ⟨k0,k1,k2,k3,k4,k5,k6,k7,k8,k9,q0,q1,q2,q3,q4,q5⟩ (fun hHeld=>?_)
 clear hK K
 refine norm_ (a':=?_) ?_ ?_
 rotate_left
 ·show Act.put _ (some 16) _=_
  simp only [Act.put,List.setIfInBounds_toArray,List.set_cons_zero,List.set_cons_succ,i64_w,i32_w]
  rfl
 refine pure_ (i:=13) (N:=some 17) (v:=?_) (a':=?_) #[T_,T_,T_,T_,T_,T_,T_,T_,T_,T_,T_,T_,T_,T_,F_,F_,F_,F_,F_,F_,F_,F_,F_,F_,F_,F_,F_,F_,F_,F_] rfl rfl (by kernel_rfl) (fun _ _ _ h=>h) (Or.inl ⟨by rfl,?_⟩) ?_ ?_
 rotate_left
 ·intro w'
  go_simp
  with_reducible rfl
 rotate_left
 ·simp only [Act.put,List.setIfInBounds_toArray,List.set_cons_zero,List.set_cons_succ,i64_w,i32_w]
  rfl
 refine pure_ (i:=14) (N:=some 18) (v:=?_) (a':=?_) #[T_,T_,T_,T_,T_,T_,T_,T_,T_,T_,T_,T_,T_,T_,T_,F_,F_,F_,F_,F_,F_,F_,F_,F_,F_,F_,F_,F_,F_,F_] rfl rfl (by kernel_rfl) (fun _ _ _ h=>h) (Or.inl ⟨by rfl,?_⟩) ?_ ?_
 rotate_left
 ·intro w'
  go_simp
  with_reducible rfl
 rotate_left
 ·simp only [Act.put,List.setIfInBounds_toArray,List.set_cons_zero,List.set_cons_succ,i64_w,i32_w]
  rfl
 refine pure_ (i:=15) (N:=some 19) (v:=undef) (a':=?_) #[T_,T_,T_,T_,T_,T_,T_,T_,T_,T_,T_,T_,T_,T_,T_,T_,F_,F_,F_,F_,F_,F_,F_,F_,F_,F_,F_,F_,F_,F_] rfl rfl (by kernel_rfl) (fun _ _ _ h=>h) (Or.inr ⟨by rfl,rfl⟩) ?_ ?_
 rotate_left
 ·simp only [Act.put,List.setIfInBounds_toArray,List.set_cons_zero,List.set_cons_succ,i64_w,i32_w]
  rfl
 refine pure_ (i:=16) (N:=some 20) (v:=undef) (a':=?_) #[T_,T_,T_,T_,T_,T_,T_,T_,T_,T_,T_,T_,T_,T_,T_,T_,T_,F_,F_,F_,F_,F_,F_,F_,F_,F_,F_,F_,F_,F_] rfl rfl (by kernel_rfl) (fun _ _ _ h=>h) (Or.inr ⟨by rfl,rfl⟩) ?_ ?_
 rotate_left
 ·simp only [Act.put,List.setIfInBounds_toArray,List.set_cons_zero,List.set_cons_succ,i64_w,i32_w]
  rfl
 refine pure_ (i:=17) (N:=some 21) (v:=undef) (a':=?_) #[T_,T_,T_,T_,T_,T_,T_,T_,T_,T_,T_,T_,T_,T_,T_,T_,T_,T_,F_,F_,F_,F_,F_,F_,F_,F_,F_,F_,F_,F_] rfl rfl (by kernel_rfl) (fun _ _ _ h=>h) (Or.inr ⟨by rfl,rfl⟩) ?_ ?_
 rotate_left
 ·simp only [Act.put,List.setIfInBounds_toArray,List.set_cons_zero,List.set_cons_succ,i64_w,i32_w]
  rfl
 refine pure_ (i:=18) (N:=some 22) (v:=undef) (a':=?_) #[T_,T_,T_,T_,T_,T_,T_,T_,T_,T_,T_,T_,T_,T_,T_,T_,T_,T_,T_,F_,F_,F_,F_,F_,F_,F_,F_,F_,F_,F_] rfl rfl (by kernel_rfl) (fun _ _ _ h=>h) (Or.inr ⟨by rfl,rfl⟩) ?_ ?_
 rotate_left
 ·simp only [Act.put,List.setIfInBounds_toArray,List.set_cons_zero,List.set_cons_succ,i64_w,i32_w]
  rfl
 refine pure_ (i:=19) (N:=some 23) (v:=undef) (a':=?_) #[T_,T_,T_,T_,T_,T_,T_,T_,T_,T_,T_,T_,T_,T_,T_,T_,T_,T_,T_,T_,F_,F_,F_,F_,F_,F_,F_,F_,F_,F_] rfl rfl (by kernel_rfl) (fun _ _ _ h=>h) (Or.inr ⟨by rfl,rfl⟩) ?_ ?_
 rotate_left
 ·simp only [Act.put,List.setIfInBounds_toArray,List.set_cons_zero,List.set_cons_succ,i64_w,i32_w]
  rfl
 refine pure_ (i:=20) (N:=some 24) (v:=?_) (a':=?_) #[T_,T_,T_,T_,T_,T_,T_,T_,T_,T_,T_,T_,T_,T_,T_,T_,T_,T_,T_,T_,T_,F_,F_,F_,F_,F_,F_,F_,F_,F_] rfl rfl (by kernel_rfl) (fun _ _ _ h=>h) (Or.inl ⟨by rfl,?_⟩) ?_ ?_
 rotate_left
 ·intro w'
  go_simp
  with_reducible rfl
 rotate_left
 ·simp only [Act.put,List.setIfInBounds_toArray,List.set_cons_zero,List.set_cons_succ,i64_w,i32_w]
  rfl
 refine pure_ (i:=21) (N:=some 25) (v:=?_) (a':=?_) #[T_,T_,T_,T_,T_,T_,T_,T_,T_,T_,T_,T_,T_,T_,T_,T_,T_,T_,T_,T_,T_,T_,F_,F_,F_,F_,F_,F_,F_,F_] rfl rfl (by kernel_rfl) (fun _ _ _ h=>h) (Or.inl ⟨by rfl,?_⟩) ?_ ?_
 rotate_left
 ·intro w'
  go_simp
  with_reducible rfl
 rotate_left
 ·simp only [Act.put,List.setIfInBounds_toArray,List.set_cons_zero,List.set_cons_succ,i64_w,i32_w]
  rfl
 refine pure_ (i:=22) (N:=some 26) (v:=undef) (a':=?_) #[T_,T_,T_,T_,T_,T_,T_,T_,T_,T_,T_,T_,T_,T_,T_,T_,T_,T_,T_,T_,T_,T_,T_,F_,F_,F_,F_,F_,F_,F_] rfl rfl (by kernel_rfl) (fun _ _ _ h=>h) (Or.inr ⟨by rfl,rfl⟩) ?_ ?_
 rotate_left
 ·simp only [Act.put,List.setIfInBounds_toArray,List.set_cons_zero,List.set_cons_succ,i64_w,i32_w]
  rfl
 refine pure_ (i:=23) (N:=some 27) (v:=undef) (a':=?_) #[T_,T_,T_,T_,T_,T_,T_,T_,T_,T_,T_,T_,T_,T_,T_,T_,T_,T_,T_,T_,T_,T_,T_,T_,F_,F_,F_,F_,F_,F_] rfl rfl (by kernel_rfl) (fun _ _ _ h=>h) (Or.inr ⟨by rfl,rfl⟩) ?_ ?_
 rotate_left
 ·simp only [Act.put,List.setIfInBounds_toArray,List.set_cons_zero,List.set_cons_succ,i64_w,i32_w]
  rfl
 refine pure_ (i:=24) (N:=some 28) (v:=undef) (a':=?_) #[T_,T_,T_,T_,T_,T_,T_,T_,T_,T_,T_,T_,T_,T_,T_,T_,T_,T_,T_,T_,T_,T_,T_,T_,T_,F_,F_,F_,F_,F_] rfl rfl (by kernel_rfl) (fun _ _ _ h=>h) (Or.inr ⟨by rfl,rfl⟩) ?_ ?_
 rotate_left
 ·simp only [Act.put,List.setIfInBounds_toArray,List.set_cons_zero,List.set_cons_succ,i64_w,i32_w]
  rfl
 refine pure_ (i:=25) (N:=some 29) (v:=undef) (a':=?_) #[T_,T_,T_,T_,T_,T_,T_,T_,T_,T_,T_,T_,T_,T_,T_,T_,T_,T_,T_,T_,T_,T_,T_,T_,T_,T_,F_,F_,F_,F_] rfl rfl (by kernel_rfl) (fun _ _ _ h=>h) (Or.inr ⟨by rfl,rfl⟩) ?_ ?_
 rotate_left
 ·simp only [Act.put,List.setIfInBounds_toArray,List.set_cons_zero,List.set_cons_succ,i64_w,i32_w]
  rfl
 refine pure_ (i:=26) (N:=some 30) (v:=undef) (a':=?_) #[T_,T_,T_,T_,T_,T_,T_,T_,T_,T_,T_,T_,T_,T_,T_,T_,T_,T_,T_,T_,T_,T_,T_,T_,T_,T_,T_,F_,F_,F_] rfl rfl (by kernel_rfl) (fun _ _ _ h=>h) (Or.inr ⟨by rfl,rfl⟩) ?_ ?_
 rotate_left
 ·simp only [Act.put,List.setIfInBounds_toArray,List.set_cons_zero,List.set_cons_succ,i64_w,i32_w]
  rfl
 refine pure_ (i:=27) (N:=some 31) (v:=?_) (a':=?_) #[T_,T_,T_,T_,T_,T_,T_,T_,T_,T_,T_,T_,T_,T_,T_,T_,T_,T_,T_,T_,T_,T_,T_,T_,T_,T_,T_,T_,F_,F_] rfl rfl (by kernel_rfl) (fun _ _ _ h=>h) (Or.inl ⟨by rfl,?_⟩) ?_ ?_
 rotate_left
 ·intro w'
  go_simp
  with_reducible rfl
 rotate_left
 ·simp only [Act.put,List.setIfInBounds_toArray,List.set_cons_zero,List.set_cons_succ,i64_w,i32_w]
  rfl
 refine pure_ (i:=28) (N:=some 2) (v:=?_) (a':=?_) #[T_,T_,T_,T_,T_,T_,T_,T_,T_,T_,T_,T_,T_,T_,T_,T_,T_,T_,T_,T_,T_,T_,T_,T_,T_,T_,T_,T_,T_,F_] rfl rfl (by kernel_rfl) (fun _ _ _ h=>h) (Or.inl ⟨by rfl,?_⟩) ?_ ?_
 rotate_left
 ·intro w'
  go_simp
  with_reducible rfl
 rotate_left
 ·simp only [Act.put,List.setIfInBounds_toArray,List.set_cons_zero,List.set_cons_succ,i64_w,i32_w]
  rfl
 refine pure_ (i:=29) (N:=some 3) (v:=?_) (a':=?_) #[T_,T_,T_,T_,T_,T_,T_,T_,T_,T_,T_,T_,T_,T_,T_,T_,T_,T_,T_,T_,T_,T_,T_,T_,T_,T_,T_,T_,T_,T_] rfl rfl (by kernel_rfl) (fun _ _ _ h=>h) (Or.inl ⟨by rfl,?_⟩) ?_ ?_
 rotate_left
 ·intro w'
  go_simp
  with_reducible rfl
 rotate_left
 ·simp only [Act.put,List.setIfInBounds_toArray,List.set_cons_zero,List.set_cons_succ,i64_w,i32_w]
  rfl
 refine done_ (by kernel_rfl) ?_
 go_wp2
 go_ret2
 exact ⟨rfl,B_.out⟩
set_option maxHeartbeats 8000000 in
set_option maxRecDepth 100000 in
theorem Dy.match_h (gx gc:Nat)(b0:Int)(s0:Bool)(b1:Int)(s1:Bool)(b2:Int)(s2:Bool)(b3:Int)(s3:Bool)(b4:Int)(s4:Bool)(cy cm cd ch cn cw:Int)(W:World)(hR:Spc.Row W gx b0 s0 b1 s1 b2 s2 b3 s3 b4 s4)(hC:Dy.Cv W gc cy cm cd ch cn cw)(h0:Dy.InU b0)(h1:Dy.InU b1)(h2:Dy.InU b2)(h3:Dy.InU b3)(h4:Dy.InU b4)(f:FuncId)(he_:∀ (V:World) (xs:Array Value),(callFunc f xs).run Tryd.prog V=.ok (.enter f xs) V)
  (BY:∀ V:World,Calls Tryd.prog 43 #[.agg #[.int .u64 b0,.bool s0,.int .u64 b1,.bool s1,.int .u64 b2,.bool s2,.int .u64 b3,.bool s3,.int .u64 b4,.bool s4]] V fun e w'=>e=.returned (.func (.func f) #[] #[.pointer (some ⟨V.heap.size,0,none⟩)])∧Aside0 (Spc.Row w' V.heap.size b0 s0 b1 s1 b2 s2 b3 s3 b4 s4)∧Below V.heap.size V w')
  (CC:∀ (g:Nat) (V:World),Aside0 (Spc.Row V g b0 s0 b1 s1 b2 s2 b3 s3 b4 s4)→Calls Tryd.prog f #[.int .i64 cd,.int .i64 cw,.pointer (some ⟨g,0,none⟩)] V fun e w'=>e=.returned (.bool true)∧Below V.heap.size V w') (e3:Dy.has b3 cm=true) (e1:Dy.has b1 ch=false) :
  Calls Tryd.prog 41 #[.pointer (some ⟨gx,0,none⟩),.pointer (some ⟨gc,0,none⟩)] W fun e w'=>e=.returned (.tuple #[.bool false,.int .i64 0])∧Below W.heap.size W w':=by
 have A3:=Lib.hid ((Dy.has_f b3 s3 cm h3).trans (congrArg some e3))
 have A1:=Lib.hid ((Dy.has_f b1 s1 ch h1).trans (congrArg some e1))
 replace CC:=Lib.hid CC
 replace BY:=Lib.hid BY
 replace he_:=Lib.hid he_
 have HR:=Aside0.mk hR
 have HC:=Aside0.mk hC
 have HB:=Aside0.mk (Below.refl W.heap.size W)
 have HRd:Aside0 (Spc.Row W.drew gx b0 s0 b1 s1 b2 s2 b3 s3 b4 s4):=Aside0.mk (blk_drew hR)
 have HCd:Aside0 (Dy.Cv W.drew gc cy cm cd ch cn cw):=Aside0.mk (blk_drew hC)
 have HBd:Aside0 (Below W.heap.size W W.drew):=Aside0.mk (below_drew1 HB.out)
 clear hR hC h0 h1 h2 h3 h4 e3 e1 HR HC HB
 obtain ⟨k0,k1,k2,k3,k4,k5,k6,k7,k8,k9,q0,q1,q2,q3,q4,q5⟩ :=Dy.SM_of HRd HCd
 go_enter Tryd.func41,Tryd.ntmps41
 go_wp2
 refine start_ (n:=30) (S:=fun w'=>w'.cell? ⟨gx,0,none⟩=some (.int .u64 b0)∧w'.cell? ⟨gx,1,none⟩=some (.bool s0)∧w'.cell? ⟨gx,2,none⟩=some (.int .u64 b1)∧w'.cell? ⟨gx,3,none⟩=some (.bool s1)∧w'.cell? ⟨gx,4,none⟩=some (.int .u64 b2)∧w'.cell? ⟨gx,5,none⟩=some (.bool s2)∧w'.cell? ⟨gx,6,none⟩=some (.int .u64 b3)∧w'.cell? ⟨gx,7,none⟩=some (.bool s3)∧w'.cell? ⟨gx,8,none⟩=some (.int .u64 b4)∧w'.cell? ⟨gx,9,none⟩=some (.bool s4)∧w'.cell? ⟨gc,0,none⟩=some (.int .i64 cy)∧w'.cell? ⟨gc,1,none⟩=some (.int .i64 cm)∧w'.cell? ⟨gc,2,none⟩=some (.int .i64 cd)∧w'.cell? ⟨gc,3,none⟩=some (.int .i64 ch)∧w'.cell? ⟨gc,4,none⟩=some (.int .i64 cn)∧w'.cell? ⟨gc,5,none⟩=some (.int .i64 cw)) (ds:=[]) #[F_,F_,F_,F_,F_,F_,F_,F_,F_,F_,F_,F_,F_,F_,F_,F_,F_,F_,F_,F_,F_,F_,F_,F_,F_,F_,F_,F_,F_,F_] (by kernel_rfl) rfl rfl ⟨k0,k1,k2,k3,k4,k5,k6,k7,k8,k9,q0,q1,q2,q3,q4,q5⟩ (fun hHeld=>?_)
 refine pure_ (i:=0) (N:=some 4) (v:=?_) (a':=?_) #[T_,F_,F_,F_,F_,F_,F_,F_,F_,F_,F_,F_,F_,F_,F_,F_,F_,F_,F_,F_,F_,F_,F_,F_,F_,F_,F_,F_,F_,F_] rfl rfl (by kernel_rfl) (fun _ _ _ h=>h) (Or.inl ⟨by rfl,?_⟩) ?_ ?_
 rotate_left
 ·intro w'
  go_simp
  with_reducible rfl
 rotate_left
 ·simp only [Act.put,List.setIfInBounds_toArray,List.set_cons_zero,List.set_cons_succ,i64_w,i32_w]
  rfl
 refine pure_ (i:=2) (N:=some 6) (v:=?_) (a':=?_) #[T_,F_,T_,F_,F_,F_,F_,F_,F_,F_,F_,F_,F_,F_,F_,F_,F_,F_,F_,F_,F_,F_,F_,F_,F_,F_,F_,F_,F_,F_] rfl rfl (by kernel_rfl) (fun _ _ _ h=>h) (Or.inl ⟨by rfl,?_⟩) ?_ ?_
 rotate_left
 ·intro w'
  go_simp
  with_reducible rfl
 rotate_left
 ·simp only [Act.put,List.setIfInBounds_toArray,List.set_cons_zero,List.set_cons_succ,i64_w,i32_w]
  rfl
 refine take_ (i:=1) (N:=some 5) (v:=?_) (a':=?_) #[T_,T_,T_,F_,F_,F_,F_,F_,F_,F_,F_,F_,F_,F_,F_,F_,F_,F_,F_,F_,F_,F_,F_,F_,F_,F_,F_,F_,F_,F_] rfl rfl (by kernel_rfl) (fun _ _ _ h=>h) (Or.inl ⟨by rfl,?_⟩) hHeld ?_ ?_
 rotate_left
 ·rintro w' ⟨s0,s1,s2,s3,s4,s5,s6,s7,s8,s9,s10,s11,s12,s13,s14,s15⟩
  go_simp
  with_reducible rfl
 rotate_left
 ·simp only [Act.put,List.setIfInBounds_toArray,List.set_cons_zero,List.set_cons_succ,i64_w,i32_w]
  rfl
 refine take_ (i:=3) (N:=some 7) (v:=?_) (a':=?_) #[T_,T_,T_,T_,F_,F_,F_,F_,F_,F_,F_,F_,F_,F_,F_,F_,F_,F_,F_,F_,F_,F_,F_,F_,F_,F_,F_,F_,F_,F_] rfl rfl (by kernel_rfl) (fun _ _ _ h=>h) (Or.inl ⟨by rfl,?_⟩) hHeld ?_ ?_
 rotate_left
 ·rintro w' ⟨s0,s1,s2,s3,s4,s5,s6,s7,s8,s9,s10,s11,s12,s13,s14,s15⟩
  go_simp
  with_reducible rfl
 rotate_left
 ·simp only [Act.put,List.setIfInBounds_toArray,List.set_cons_zero,List.set_cons_succ,i64_w,i32_w]
  rfl
 refine one_ (i:=4) (N:=some 8) #[T_,T_,T_,T_,T_,F_,F_,F_,F_,F_,F_,F_,F_,F_,F_,F_,F_,F_,F_,F_,F_,F_,F_,F_,F_,F_,F_,F_,F_,F_] rfl rfl (by kernel_rfl) (by decide) (fun K hK=>?_)
 refine goes_ Tryd.func42 (by kernel_rfl) rfl #[.agg #[.int .u64 b3,.bool s3],.int .i64 cm] (by rfl) rfl rfl (by simp only [List.map_toArray,List.map_cons,List.map_nil]; rfl) ?_
 with_reducible refine (field_Has.calls b3 s3 cm true _ A3.out).mono ?_
 rintro e w3 ⟨rfl,hb⟩
 refine ⟨_,rfl,?_⟩
 have R_:Aside0 (Spc.Row w3 gx b0 s0 b1 s1 b2 s2 b3 s3 b4 s4):=Dy.stepR (by assumption) hb
 have C_:Aside0 (Dy.Cv w3 gc cy cm cd ch cn cw):=Dy.stepC (by assumption) hb
 have B_:Aside0 (Below W.heap.size W w3):=Dy.stepB (by assumption) hb
 clear hb
 obtain ⟨k0,k1,k2,k3,k4,k5,k6,k7,k8,k9,q0,q1,q2,q3,q4,q5⟩ :=Dy.SM_of R_ C_
 refine hK.out _ _ ⟨k0,k1,k2,k3,k4,k5,k6,k7,k8,k9,q0,q1,q2,q3,q4,q5⟩ (fun hHeld=>?_)
 clear hK K
 refine norm_ (a':=?_) ?_ ?_
 rotate_left
 ·show Act.put _ (some 8) _=_
  simp only [Act.put,List.setIfInBounds_toArray,List.set_cons_zero,List.set_cons_succ,i64_w,i32_w]
  rfl
 refine pure_ (i:=5) (N:=some 9) (v:=?_) (a':=?_) #[T_,T_,T_,T_,T_,T_,F_,F_,F_,F_,F_,F_,F_,F_,F_,F_,F_,F_,F_,F_,F_,F_,F_,F_,F_,F_,F_,F_,F_,F_] rfl rfl (by kernel_rfl) (fun _ _ _ h=>h) (Or.inl ⟨by rfl,?_⟩) ?_ ?_
 rotate_left
 ·intro w'
  go_simp
  with_reducible rfl
 rotate_left
 ·simp only [Act.put,List.setIfInBounds_toArray,List.set_cons_zero,List.set_cons_succ,i64_w,i32_w]
  rfl
 refine pure_ (i:=8) (N:=some 12) (v:=?_) (a':=?_) #[T_,T_,T_,T_,T_,T_,F_,F_,T_,F_,F_,F_,F_,F_,F_,F_,F_,F_,F_,F_,F_,F_,F_,F_,F_,F_,F_,F_,F_,F_] rfl rfl (by kernel_rfl) (fun _ _ _ h=>h) (Or.inl ⟨by rfl,?_⟩) ?_ ?_
 rotate_left
 ·intro w'
  go_simp
  with_reducible rfl
 rotate_left
 ·simp only [Act.put,List.setIfInBounds_toArray,List.set_cons_zero,List.set_cons_succ,i64_w,i32_w]
  rfl
 refine pure_ (i:=10) (N:=some 14) (v:=?_) (a':=?_) #[T_,T_,T_,T_,T_,T_,F_,F_,T_,F_,T_,F_,F_,F_,F_,F_,F_,F_,F_,F_,F_,F_,F_,F_,F_,F_,F_,F_,F_,F_] rfl rfl (by kernel_rfl) (fun _ _ _ h=>h) (Or.inl ⟨by rfl,?_⟩) ?_ ?_
 rotate_left
 ·intro w'
  go_simp
  with_reducible rfl
 rotate_left
 ·simp only [Act.put,List.setIfInBounds_toArray,List.set_cons_zero,List.set_cons_succ,i64_w,i32_w]
  rfl
 refine take_ (i:=6) (N:=some 10) (v:=?_) (a':=?_) #[T_,T_,T_,T_,T_,T_,T_,F_,T_,F_,T_,F_,F_,F_,F_,F_,F_,F_,F_,F_,F_,F_,F_,F_,F_,F_,F_,F_,F_,F_] rfl rfl (by kernel_rfl) (fun _ _ _ h=>h) (Or.inl ⟨by rfl,?_⟩) hHeld ?_ ?_
 rotate_left
 ·rintro w' ⟨s0,s1,s2,s3,s4,s5,s6,s7,s8,s9,s10,s11,s12,s13,s14,s15⟩
  go_simp
  with_reducible rfl
 rotate_left
 ·simp only [Act.put,List.setIfInBounds_toArray,List.set_cons_zero,List.set_cons_succ,i64_w,i32_w]
  rfl
 refine take_ (i:=9) (N:=some 13) (v:=?_) (a':=?_) #[T_,T_,T_,T_,T_,T_,T_,F_,T_,T_,T_,F_,F_,F_,F_,F_,F_,F_,F_,F_,F_,F_,F_,F_,F_,F_,F_,F_,F_,F_] rfl rfl (by kernel_rfl) (fun _ _ _ h=>h) (Or.inl ⟨by rfl,?_⟩) hHeld ?_ ?_
 rotate_left
 ·rintro w' ⟨s0,s1,s2,s3,s4,s5,s6,s7,s8,s9,s10,s11,s12,s13,s14,s15⟩
  go_simp
  with_reducible rfl
 rotate_left
 ·simp only [Act.put,List.setIfInBounds_toArray,List.set_cons_zero,List.set_cons_succ,i64_w,i32_w]
  rfl
 refine take_ (i:=11) (N:=some 15) (v:=?_) (a':=?_) #[T_,T_,T_,T_,T_,T_,T_,F_,T_,T_,T_,T_,F_,F_,F_,F_,F_,F_,F_,F_,F_,F_,F_,F_,F_,F_,F_,F_,F_,F_] rfl rfl (by kernel_rfl) (fun _ _ _ h=>h) (Or.inl ⟨by rfl,?_⟩) hHeld ?_ ?_
 rotate_left
 ·rintro w' ⟨s0,s1,s2,s3,s4,s5,s6,s7,s8,s9,s10,s11,s12,s13,s14,s15⟩
  go_simp
  with_reducible rfl
 rotate_left
 ·simp only [Act.put,List.setIfInBounds_toArray,List.set_cons_zero,List.set_cons_succ,i64_w,i32_w]
  rfl
 refine one_ (i:=7) (N:=some 11) #[T_,T_,T_,T_,T_,T_,T_,T_,T_,T_,T_,T_,F_,F_,F_,F_,F_,F_,F_,F_,F_,F_,F_,F_,F_,F_,F_,F_,F_,F_] rfl rfl (by kernel_rfl) (by decide) (fun K hK=>?_)
 refine goes_ Tryd.func43 (by kernel_rfl) rfl #[.agg #[.int .u64 b0,.bool s0,.int .u64 b1,.bool s1,.int .u64 b2,.bool s2,.int .u64 b3,.bool s3,.int .u64 b4,.bool s4]] (by rfl) rfl rfl (by simp only [List.map_toArray,List.map_cons,List.map_nil]; rfl) ?_
 with_reducible refine (BY.out _).mono ?_
 rintro e w3 ⟨rfl,HG,hb⟩
 refine ⟨_,rfl,?_⟩
 have R_:Aside0 (Spc.Row w3 gx b0 s0 b1 s1 b2 s2 b3 s3 b4 s4):=Dy.stepR (by assumption) hb
 have C_:Aside0 (Dy.Cv w3 gc cy cm cd ch cn cw):=Dy.stepC (by assumption) hb
 have B_:Aside0 (Below W.heap.size W w3):=Dy.stepB (by assumption) hb
 clear hb
 obtain ⟨k0,k1,k2,k3,k4,k5,k6,k7,k8,k9,q0,q1,q2,q3,q4,q5⟩ :=Dy.SM_of R_ C_
 refine hK.out _ _ ⟨k0,k1,k2,k3,k4,k5,k6,k7,k8,k9,q0,q1,q2,q3,q4,q5⟩ (fun hHeld=>?_)
 clear hK K
 refine norm_ (a':=?_) ?_ ?_
 rotate_left
 ·show Act.put _ (some 11) _=_
  simp only [Act.put,List.setIfInBounds_toArray,List.set_cons_zero,List.set_cons_succ,i64_w,i32_w]
  rfl
 refine one_ (i:=12) (N:=some 16) #[T_,T_,T_,T_,T_,T_,T_,T_,T_,T_,T_,T_,T_,F_,F_,F_,F_,F_,F_,F_,F_,F_,F_,F_,F_,F_,F_,F_,F_,F_] rfl rfl (by kernel_rfl) (by decide) (fun K hK=>?_)
 have hE_:=he_.out
 refine call_ f #[.int .i64 cd,.int .i64 cw,.pointer (some ⟨_,0,none⟩)] (by rfl) rfl (by unfold execOp; simp [resolve,Deferred.ofValue,invoke,Act.eval,hE_]; rfl) ?_
 clear hE_
 with_reducible refine (CC.out _ _ HG).mono ?_
 rintro e w3 ⟨rfl,hb⟩
 refine ⟨_,rfl,?_⟩
 have R_:Aside0 (Spc.Row w3 gx b0 s0 b1 s1 b2 s2 b3 s3 b4 s4):=Dy.stepR (by assumption) hb
 have C_:Aside0 (Dy.Cv w3 gc cy cm cd ch cn cw):=Dy.stepC (by assumption) hb
 have B_:Aside0 (Below W.heap.size W w3):=Dy.stepB (by assumption) hb
 clear hb
 obtain ⟨k0,k1,k2,k3,k4,k5,k6,k7,k8,k9,q0,q1,q2,q3,q4,q5⟩ :=Dy.SM_of R_ C_
 refine hK.out _ _ ⟨k0,k1,k2,k3,k4,k5,k6,k7,k8,k9,q0,q1,q2,q3,q4,q5⟩ (fun hHeld=>?_)
 clear hK K
 refine norm_ (a':=?_) ?_ ?_
 rotate_left
 ·show Act.put _ (some 16) _=_
  simp only [Act.put,List.setIfInBounds_toArray,List.set_cons_zero,List.set_cons_succ,i64_w,i32_w]
  rfl
 refine pure_ (i:=13) (N:=some 17) (v:=?_) (a':=?_) #[T_,T_,T_,T_,T_,T_,T_,T_,T_,T_,T_,T_,T_,T_,F_,F_,F_,F_,F_,F_,F_,F_,F_,F_,F_,F_,F_,F_,F_,F_] rfl rfl (by kernel_rfl) (fun _ _ _ h=>h) (Or.inl ⟨by rfl,?_⟩) ?_ ?_
 rotate_left
 ·intro w'
  go_simp
  with_reducible rfl
 rotate_left
 ·simp only [Act.put,List.setIfInBounds_toArray,List.set_cons_zero,List.set_cons_succ,i64_w,i32_w]
  rfl
 refine pure_ (i:=14) (N:=some 18) (v:=?_) (a':=?_) #[T_,T_,T_,T_,T_,T_,T_,T_,T_,T_,T_,T_,T_,T_,T_,F_,F_,F_,F_,F_,F_,F_,F_,F_,F_,F_,F_,F_,F_,F_] rfl rfl (by kernel_rfl) (fun _ _ _ h=>h) (Or.inl ⟨by rfl,?_⟩) ?_ ?_
 rotate_left
 ·intro w'
  go_simp
  with_reducible rfl
 rotate_left
 ·simp only [Act.put,List.setIfInBounds_toArray,List.set_cons_zero,List.set_cons_succ,i64_w,i32_w]
  rfl
 refine pure_ (i:=15) (N:=some 19) (v:=?_) (a':=?_) #[T_,T_,T_,T_,T_,T_,T_,T_,T_,T_,T_,T_,T_,T_,T_,T_,F_,F_,F_,F_,F_,F_,F_,F_,F_,F_,F_,F_,F_,F_] rfl rfl (by kernel_rfl) (fun _ _ _ h=>h) (Or.inl ⟨by rfl,?_⟩) ?_ ?_
 rotate_left
 ·intro w'
  go_simp
  with_reducible rfl
 rotate_left
 ·simp only [Act.put,List.setIfInBounds_toArray,List.set_cons_zero,List.set_cons_succ,i64_w,i32_w]
  rfl
 refine pure_ (i:=17) (N:=some 21) (v:=?_) (a':=?_) #[T_,T_,T_,T_,T_,T_,T_,T_,T_,T_,T_,T_,T_,T_,T_,T_,F_,T_,F_,F_,F_,F_,F_,F_,F_,F_,F_,F_,F_,F_] rfl rfl (by kernel_rfl) (fun _ _ _ h=>h) (Or.inl ⟨by rfl,?_⟩) ?_ ?_
 rotate_left
 ·intro w'
  go_simp
  with_reducible rfl
 rotate_left
 ·simp only [Act.put,List.setIfInBounds_toArray,List.set_cons_zero,List.set_cons_succ,i64_w,i32_w]
  rfl
 refine take_ (i:=16) (N:=some 20) (v:=?_) (a':=?_) #[T_,T_,T_,T_,T_,T_,T_,T_,T_,T_,T_,T_,T_,T_,T_,T_,T_,T_,F_,F_,F_,F_,F_,F_,F_,F_,F_,F_,F_,F_] rfl rfl (by kernel_rfl) (fun _ _ _ h=>h) (Or.inl ⟨by rfl,?_⟩) hHeld ?_ ?_
 rotate_left
 ·rintro w' ⟨s0,s1,s2,s3,s4,s5,s6,s7,s8,s9,s10,s11,s12,s13,s14,s15⟩
  go_simp
  with_reducible rfl
 rotate_left
 ·simp only [Act.put,List.setIfInBounds_toArray,List.set_cons_zero,List.set_cons_succ,i64_w,i32_w]
  rfl
 refine take_ (i:=18) (N:=some 22) (v:=?_) (a':=?_) #[T_,T_,T_,T_,T_,T_,T_,T_,T_,T_,T_,T_,T_,T_,T_,T_,T_,T_,T_,F_,F_,F_,F_,F_,F_,F_,F_,F_,F_,F_] rfl rfl (by kernel_rfl) (fun _ _ _ h=>h) (Or.inl ⟨by rfl,?_⟩) hHeld ?_ ?_
 rotate_left
 ·rintro w' ⟨s0,s1,s2,s3,s4,s5,s6,s7,s8,s9,s10,s11,s12,s13,s14,s15⟩
  go_simp
  with_reducible rfl
 rotate_left
 ·simp only [Act.put,List.setIfInBounds_toArray,List.set_cons_zero,List.set_cons_succ,i64_w,i32_w]
  rfl
 refine one_ (i:=19) (N:=some 23) #[T_,T_,T_,T_,T_,T_,T_,T_,T_,T_,T_,T_,T_,T_,T_,T_,T_,T_,T_,T_,F_,F_,F_,F_,F_,F_,F_,F_,F_,F_] rfl rfl (by kernel_rfl) (by decide) (fun K hK=>?_)
 refine goes_ Tryd.func42 (by kernel_rfl) rfl #[.agg #[.int .u64 b1,.bool s1],.int .i64 ch] (by rfl) rfl rfl (by simp only [List.map_toArray,List.map_cons,List.map_nil]; rfl) ?_
 with_reducible refine (field_Has.calls b1 s1 ch false _ A1.out).mono ?_
 rintro e w3 ⟨rfl,hb⟩
 refine ⟨_,rfl,?_⟩
 have R_:Aside0 (Spc.Row w3 gx b0 s0 b1 s1 b2 s2 b3 s3 b4 s4):=Dy.stepR (by assumption) hb
 have C_:Aside0 (Dy.Cv w3 gc cy cm cd ch cn cw):=Dy.stepC (by assumption) hb
 have B_:Aside0 (Below W.heap.size W w3):=Dy.stepB (by assumption) hb
 clear hb
 obtain ⟨k0,k1,k2,k3,k4,k5,k6,k7,k8,k9,q0,q1,q2,q3,q4,q5⟩ :=Dy.SM_of R_ C_
 refine hK.out _ _ ⟨k0,k1,k2,k3,k4,k5,k6,k7,k8,k9,q0,q1,q2,q3,q4,q5⟩ (fun hHeld=>?_)
 clear hK K
 refine norm_ (a':=?_) ?_ ?_
 rotate_left
 ·show Act.put _ (some 23) _=_
  simp only [Act.put,List.setIfInBounds_toArray,List.set_cons_zero,List.set_cons_succ,i64_w,i32_w]
  rfl
 refine pure_ (i:=20) (N:=some 24) (v:=?_) (a':=?_) #[T_,T_,T_,T_,T_,T_,T_,T_,T_,T_,T_,T_,T_,T_,T_,T_,T_,T_,T_,T_,T_,F_,F_,F_,F_,F_,F_,F_,F_,F_] rfl rfl (by kernel_rfl) (fun _ _ _ h=>h) (Or.inl ⟨by rfl,?_⟩) ?_ ?_
 rotate_left
 ·intro w'
  go_simp
  with_reducible rfl
 rotate_left
 ·simp only [Act.put,List.setIfInBounds_toArray,List.set_cons_zero,List.set_cons_succ,i64_w,i32_w]
  rfl
 refine pure_ (i:=21) (N:=some 25) (v:=?_) (a':=?_) #[T_,T_,T_,T_,T_,T_,T_,T_,T_,T_,T_,T_,T_,T_,T_,T_,T_,T_,T_,T_,T_,T_,F_,F_,F_,F_,F_,F_,F_,F_] rfl rfl (by kernel_rfl) (fun _ _ _ h=>h) (Or.inl ⟨by rfl,?_⟩) ?_ ?_
 rotate_left
 ·intro w'
  go_simp
  with_reducible rfl
 rotate_left
 ·simp only [Act.put,List.setIfInBounds_toArray,List.set_cons_zero,List.set_cons_succ,i64_w,i32_w]
  rfl
 refine pure_ (i:=22) (N:=some 26) (v:=undef) (a':=?_) #[T_,T_,T_,T_,T_,T_,T_,T_,T_,T_,T_,T_,T_,T_,T_,T_,T_,T_,T_,T_,T_,T_,T_,F_,F_,F_,F_,F_,F_,F_] rfl rfl (by kernel_rfl) (fun _ _ _ h=>h) (Or.inr ⟨by rfl,rfl⟩) ?_ ?_
 rotate_left
 ·simp only [Act.put,List.setIfInBounds_toArray,List.set_cons_zero,List.set_cons_succ,i64_w,i32_w]
  rfl
 refine pure_ (i:=23) (N:=some 27) (v:=undef) (a':=?_) #[T_,T_,T_,T_,T_,T_,T_,T_,T_,T_,T_,T_,T_,T_,T_,T_,T_,T_,T_,T_,T_,T_,T_,T_,F_,F_,F_,F_,F_,F_] rfl rfl (by kernel_rfl) (fun _ _ _ h=>h) (Or.inr ⟨by rfl,rfl⟩) ?_ ?_
 rotate_left
 ·simp only [Act.put,List.setIfInBounds_toArray,List.set_cons_zero,List.set_cons_succ,i64_w,i32_w]
  rfl
 refine pure_ (i:=24) (N:=some 28) (v:=undef) (a':=?_) #[T_,T_,T_,T_,T_,T_,T_,T_,T_,T_,T_,T_,T_,T_,T_,T_,T_,T_,T_,T_,T_,T_,T_,T_,T_,F_,F_,F_,F_,F_] rfl rfl (by kernel_rfl) (fun _ _ _ h=>h) (Or.inr ⟨by rfl,rfl⟩) ?_ ?_
 rotate_left
 ·simp only [Act.put,List.setIfInBounds_toArray,List.set_cons_zero,List.set_cons_succ,i64_w,i32_w]
  rfl
 refine pure_ (i:=25) (N:=some 29) (v:=undef) (a':=?_) #[T_,T_,T_,T_,T_,T_,T_,T_,T_,T_,T_,T_,T_,T_,T_,T_,T_,T_,T_,T_,T_,T_,T_,T_,T_,T_,F_,F_,F_,F_] rfl rfl (by kernel_rfl) (fun _ _ _ h=>h) (Or.inr ⟨by rfl,rfl⟩) ?_ ?_
 rotate_left
 ·simp only [Act.put,List.setIfInBounds_toArray,List.set_cons_zero,List.set_cons_succ,i64_w,i32_w]
  rfl
 refine pure_ (i:=26) (N:=some 30) (v:=undef) (a':=?_) #[T_,T_,T_,T_,T_,T_,T_,T_,T_,T_,T_,T_,T_,T_,T_,T_,T_,T_,T_,T_,T_,T_,T_,T_,T_,T_,T_,F_,F_,F_] rfl rfl (by kernel_rfl) (fun _ _ _ h=>h) (Or.inr ⟨by rfl,rfl⟩) ?_ ?_
 rotate_left
 ·simp only [Act.put,List.setIfInBounds_toArray,List.set_cons_zero,List.set_cons_succ,i64_w,i32_w]
  rfl
 refine pure_ (i:=27) (N:=some 31) (v:=?_) (a':=?_) #[T_,T_,T_,T_,T_,T_,T_,T_,T_,T_,T_,T_,T_,T_,T_,T_,T_,T_,T_,T_,T_,T_,T_,T_,T_,T_,T_,T_,F_,F_] rfl rfl (by kernel_rfl) (fun _ _ _ h=>h) (Or.inl ⟨by rfl,?_⟩) ?_ ?_
 rotate_left
 ·intro w'
  go_simp
  with_reducible rfl
 rotate_left
 ·simp only [Act.put,List.setIfInBounds_toArray,List.set_cons_zero,List.set_cons_succ,i64_w,i32_w]
  rfl
 refine pure_ (i:=28) (N:=some 2) (v:=?_) (a':=?_) #[T_,T_,T_,T_,T_,T_,T_,T_,T_,T_,T_,T_,T_,T_,T_,T_,T_,T_,T_,T_,T_,T_,T_,T_,T_,T_,T_,T_,T_,F_] rfl rfl (by kernel_rfl) (fun _ _ _ h=>h) (Or.inl ⟨by rfl,?_⟩) ?_ ?_
 rotate_left
 ·intro w'
  go_simp
  with_reducible rfl
 rotate_left
 ·simp only [Act.put,List.setIfInBounds_toArray,List.set_cons_zero,List.set_cons_succ,i64_w,i32_w]
  rfl
 refine pure_ (i:=29) (N:=some 3) (v:=?_) (a':=?_) #[T_,T_,T_,T_,T_,T_,T_,T_,T_,T_,T_,T_,T_,T_,T_,T_,T_,T_,T_,T_,T_,T_,T_,T_,T_,T_,T_,T_,T_,T_] rfl rfl (by kernel_rfl) (fun _ _ _ h=>h) (Or.inl ⟨by rfl,?_⟩) ?_ ?_
 rotate_left
 ·intro w'
  go_simp
  with_reducible rfl
 rotate_left
 ·simp only [Act.put,List.setIfInBounds_toArray,List.set_cons_zero,List.set_cons_succ,i64_w,i32_w]
  rfl
 refine done_ (by kernel_rfl) ?_
 go_wp2
 go_ret2
 exact ⟨rfl,B_.out⟩
set_option maxHeartbeats 8000000 in
set_option maxRecDepth 100000 in
theorem Dy.match_m (gx gc:Nat)(b0:Int)(s0:Bool)(b1:Int)(s1:Bool)(b2:Int)(s2:Bool)(b3:Int)(s3:Bool)(b4:Int)(s4:Bool)(cy cm cd ch cn cw:Int)(W:World)(hR:Spc.Row W gx b0 s0 b1 s1 b2 s2 b3 s3 b4 s4)(hC:Dy.Cv W gc cy cm cd ch cn cw)(h0:Dy.InU b0)(h1:Dy.InU b1)(h2:Dy.InU b2)(h3:Dy.InU b3)(h4:Dy.InU b4)(f:FuncId)(he_:∀ (V:World) (xs:Array Value),(callFunc f xs).run Tryd.prog V=.ok (.enter f xs) V)
  (BY:∀ V:World,Calls Tryd.prog 43 #[.agg #[.int .u64 b0,.bool s0,.int .u64 b1,.bool s1,.int .u64 b2,.bool s2,.int .u64 b3,.bool s3,.int .u64 b4,.bool s4]] V fun e w'=>e=.returned (.func (.func f) #[] #[.pointer (some ⟨V.heap.size,0,none⟩)])∧Aside0 (Spc.Row w' V.heap.size b0 s0 b1 s1 b2 s2 b3 s3 b4 s4)∧Below V.heap.size V w')
  (CC:∀ (g:Nat) (V:World),Aside0 (Spc.Row V g b0 s0 b1 s1 b2 s2 b3 s3 b4 s4)→Calls Tryd.prog f #[.int .i64 cd,.int .i64 cw,.pointer (some ⟨g,0,none⟩)] V fun e w'=>e=.returned (.bool true)∧Below V.heap.size V w') (e3:Dy.has b3 cm=true) (e1:Dy.has b1 ch=true) (x:Bool) (e0:Dy.has b0 cn=x) :
  Calls Tryd.prog 41 #[.pointer (some ⟨gx,0,none⟩),.pointer (some ⟨gc,0,none⟩)] W fun e w'=>e=.returned (.tuple #[.bool x,.int .i64 0])∧Below W.heap.size W w':=by
 have A3:=Lib.hid ((Dy.has_f b3 s3 cm h3).trans (congrArg some e3))
 have A1:=Lib.hid ((Dy.has_f b1 s1 ch h1).trans (congrArg some e1))
 have A0:=Lib.hid ((Dy.has_f b0 s0 cn h0).trans (congrArg some e0))
 replace CC:=Lib.hid CC
 replace BY:=Lib.hid BY
 replace he_:=Lib.hid he_
 have HR:=Aside0.mk hR
 have HC:=Aside0.mk hC
 have HB:=Aside0.mk (Below.refl W.heap.size W)
 have HRd:Aside0 (Spc.Row W.drew gx b0 s0 b1 s1 b2 s2 b3 s3 b4 s4):=Aside0.mk (blk_drew hR)
 have HCd:Aside0 (Dy.Cv W.drew gc cy cm cd ch cn cw):=Aside0.mk (blk_drew hC)
 have HBd:Aside0 (Below W.heap.size W W.drew):=Aside0.mk (below_drew1 HB.out)
 clear hR hC h0 h1 h2 h3 h4 e3 e1 e0 HR HC HB
 obtain ⟨k0,k1,k2,k3,k4,k5,k6,k7,k8,k9,q0,q1,q2,q3,q4,q5⟩ :=Dy.SM_of HRd HCd
 go_enter Tryd.func41,Tryd.ntmps41
 go_wp2
 refine start_ (n:=30) (S:=fun w'=>w'.cell? ⟨gx,0,none⟩=some (.int .u64 b0)∧w'.cell? ⟨gx,1,none⟩=some (.bool s0)∧w'.cell? ⟨gx,2,none⟩=some (.int .u64 b1)∧w'.cell? ⟨gx,3,none⟩=some (.bool s1)∧w'.cell? ⟨gx,4,none⟩=some (.int .u64 b2)∧w'.cell? ⟨gx,5,none⟩=some (.bool s2)∧w'.cell? ⟨gx,6,none⟩=some (.int .u64 b3)∧w'.cell? ⟨gx,7,none⟩=some (.bool s3)∧w'.cell? ⟨gx,8,none⟩=some (.int .u64 b4)∧w'.cell? ⟨gx,9,none⟩=some (.bool s4)∧w'.cell? ⟨gc,0,none⟩=some (.int .i64 cy)∧w'.cell? ⟨gc,1,none⟩=some (.int .i64 cm)∧w'.cell? ⟨gc,2,none⟩=some (.int .i64 cd)∧w'.cell? ⟨gc,3,none⟩=some (.int .i64 ch)∧w'.cell? ⟨gc,4,none⟩=some (.int .i64 cn)∧w'.cell? ⟨gc,5,none⟩=some (.int .i64 cw)) (ds:=[]) #[F_,F_,F_,F_,F_,F_,F_,F_,F_,F_,F_,F_,F_,F_,F_,F_,F_,F_,F_,F_,F_,F_,F_,F_,F_,F_,F_,F_,F_,F_] (by kernel_rfl) rfl rfl ⟨k0,k1,k2,k3,k4,k5,k6,k7,k8,k9,q0,q1,q2,q3,q4,q5⟩ (fun hHeld=>?_)
 refine pure_ (i:=0) (N:=some 4) (v:=?_) (a':=?_) #[T_,F_,F_,F_,F_,F_,F_,F_,F_,F_,F_,F_,F_,F_,F_,F_,F_,F_,F_,F_,F_,F_,F_,F_,F_,F_,F_,F_,F_,F_] rfl rfl (by kernel_rfl) (fun _ _ _ h=>h) (Or.inl ⟨by rfl,?_⟩) ?_ ?_
 rotate_left
 ·intro w'
  go_simp
  with_reducible rfl
 rotate_left
 ·simp only [Act.put,List.setIfInBounds_toArray,List.set_cons_zero,List.set_cons_succ,i64_w,i32_w]
  rfl
 refine pure_ (i:=2) (N:=some 6) (v:=?_) (a':=?_) #[T_,F_,T_,F_,F_,F_,F_,F_,F_,F_,F_,F_,F_,F_,F_,F_,F_,F_,F_,F_,F_,F_,F_,F_,F_,F_,F_,F_,F_,F_] rfl rfl (by kernel_rfl) (fun _ _ _ h=>h) (Or.inl ⟨by rfl,?_⟩) ?_ ?_
 rotate_left
 ·intro w'
  go_simp
  with_reducible rfl
 rotate_left
 ·simp only [Act.put,List.setIfInBounds_toArray,List.set_cons_zero,List.set_cons_succ,i64_w,i32_w]
  rfl
 refine take_ (i:=1) (N:=some 5) (v:=?_) (a':=?_) #[T_,T_,T_,F_,F_,F_,F_,F_,F_,F_,F_,F_,F_,F_,F_,F_,F_,F_,F_,F_,F_,F_,F_,F_,F_,F_,F_,F_,F_,F_] rfl rfl (by kernel_rfl) (fun _ _ _ h=>h) (Or.inl ⟨by rfl,?_⟩) hHeld ?_ ?_
 rotate_left
 ·rintro w' ⟨s0,s1,s2,s3,s4,s5,s6,s7,s8,s9,s10,s11,s12,s13,s14,s15⟩
  go_simp
  with_reducible rfl
 rotate_left
 ·simp only [Act.put,List.setIfInBounds_toArray,List.set_cons_zero,List.set_cons_succ,i64_w,i32_w]
  rfl
 refine take_ (i:=3) (N:=some 7) (v:=?_) (a':=?_) #[T_,T_,T_,T_,F_,F_,F_,F_,F_,F_,F_,F_,F_,F_,F_,F_,F_,F_,F_,F_,F_,F_,F_,F_,F_,F_,F_,F_,F_,F_] rfl rfl (by kernel_rfl) (fun _ _ _ h=>h) (Or.inl ⟨by rfl,?_⟩) hHeld ?_ ?_
 rotate_left
 ·rintro w' ⟨s0,s1,s2,s3,s4,s5,s6,s7,s8,s9,s10,s11,s12,s13,s14,s15⟩
  go_simp
  with_reducible rfl
 rotate_left
 ·simp only [Act.put,List.setIfInBounds_toArray,List.set_cons_zero,List.set_cons_succ,i64_w,i32_w]
  rfl
 refine one_ (i:=4) (N:=some 8) #[T_,T_,T_,T_,T_,F_,F_,F_,F_,F_,F_,F_,F_,F_,F_,F_,F_,F_,F_,F_,F_,F_,F_,F_,F_,F_,F_,F_,F_,F_] rfl rfl (by kernel_rfl) (by decide) (fun K hK=>?_)
 refine goes_ Tryd.func42 (by kernel_rfl) rfl #[.agg #[.int .u64 b3,.bool s3],.int .i64 cm] (by rfl) rfl rfl (by simp only [List.map_toArray,List.map_cons,List.map_nil]; rfl) ?_
 with_reducible refine (field_Has.calls b3 s3 cm true _ A3.out).mono ?_
 rintro e w3 ⟨rfl,hb⟩
 refine ⟨_,rfl,?_⟩
 have R_:Aside0 (Spc.Row w3 gx b0 s0 b1 s1 b2 s2 b3 s3 b4 s4):=Dy.stepR (by assumption) hb
 have C_:Aside0 (Dy.Cv w3 gc cy cm cd ch cn cw):=Dy.stepC (by assumption) hb
 have B_:Aside0 (Below W.heap.size W w3):=Dy.stepB (by assumption) hb
 clear hb
 obtain ⟨k0,k1,k2,k3,k4,k5,k6,k7,k8,k9,q0,q1,q2,q3,q4,q5⟩ :=Dy.SM_of R_ C_
 refine hK.out _ _ ⟨k0,k1,k2,k3,k4,k5,k6,k7,k8,k9,q0,q1,q2,q3,q4,q5⟩ (fun hHeld=>?_)
 clear hK K
 refine norm_ (a':=?_) ?_ ?_
 rotate_left
 ·show Act.put _ (some 8) _=_
  simp only [Act.put,List.setIfInBounds_toArray,List.set_cons_zero,List.set_cons_succ,i64_w,i32_w]
  rfl
 refine pure_ (i:=5) (N:=some 9) (v:=?_) (a':=?_) #[T_,T_,T_,T_,T_,T_,F_,F_,F_,F_,F_,F_,F_,F_,F_,F_,F_,F_,F_,F_,F_,F_,F_,F_,F_,F_,F_,F_,F_,F_] rfl rfl (by kernel_rfl) (fun _ _ _ h=>h) (Or.inl ⟨by rfl,?_⟩) ?_ ?_
 rotate_left
 ·intro w'
  go_simp
  with_reducible rfl
 rotate_left
 ·simp only [Act.put,List.setIfInBounds_toArray,List.set_cons_zero,List.set_cons_succ,i64_w,i32_w]
  rfl
 refine pure_ (i:=8) (N:=some 12) (v:=?_) (a':=?_) #[T_,T_,T_,T_,T_,T_,F_,F_,T_,F_,F_,F_,F_,F_,F_,F_,F_,F_,F_,F_,F_,F_,F_,F_,F_,F_,F_,F_,F_,F_] rfl rfl (by kernel_rfl) (fun _ _ _ h=>h) (Or.inl ⟨by rfl,?_⟩) ?_ ?_
 rotate_left
 ·intro w'
  go_simp
  with_reducible rfl
 rotate_left
 ·simp only [Act.put,List.setIfInBounds_toArray,List.set_cons_zero,List.set_cons_succ,i64_w,i32_w]
  rfl
 refine pure_ (i:=10) (N:=some 14) (v:=?_) (a':=?_) #[T_,T_,T_,T_,T_,T_,F_,F_,T_,F_,T_,F_,F_,F_,F_,F_,F_,F_,F_,F_,F_,F_,F_,F_,F_,F_,F_,F_,F_,F_] rfl rfl (by kernel_rfl) (fun _ _ _ h=>h) (Or.inl ⟨by rfl,?_⟩) ?_ ?_
 rotate_left
 ·intro w'
  go_simp
  with_reducible rfl
 rotate_left
 ·simp only [Act.put,List.setIfInBounds_toArray,List.set_cons_zero,List.set_cons_succ,i64_w,i32_w]
  rfl
 refine take_ (i:=6) (N:=some 10) (v:=?_) (a':=?_) #[T_,T_,T_,T_,T_,T_,T_,F_,T_,F_,T_,F_,F_,F_,F_,F_,F_,F_,F_,F_,F_,F_,F_,F_,F_,F_,F_,F_,F_,F_] rfl rfl (by kernel_rfl) (fun _ _ _ h=>h) (Or.inl ⟨by rfl,?_⟩) hHeld ?_ ?_
 rotate_left
 ·rintro w' ⟨s0,s1,s2,s3,s4,s5,s6,s7,s8,s9,s10,s11,s12,s13,s14,s15⟩
  go_simp
  with_reducible rfl
 rotate_left
 ·simp only [Act.put,List.setIfInBounds_toArray,List.set_cons_zero,List.set_cons_succ,i64_w,i32_w]
  rfl
 refine take_ (i:=9) (N:=some 13) (v:=?_) (a':=?_) #[T_,T_,T_,T_,T_,T_,T_,F_,T_,T_,T_,F_,F_,F_,F_,F_,F_,F_,F_,F_,F_,F_,F_,F_,F_,F_,F_,F_,F_,F_] rfl rfl (by kernel_rfl) (fun _ _ _ h=>h) (Or.inl ⟨by rfl,?_⟩) hHeld ?_ ?_
 rotate_left
 ·rintro w' ⟨s0,s1,s2,s3,s4,s5,s6,s7,s8,s9,s10,s11,s12,s13,s14,s15⟩
  go_simp
  with_reducible rfl
 rotate_left
 ·simp only [Act.put,List.setIfInBounds_toArray,List.set_cons_zero,List.set_cons_succ,i64_w,i32_w]
  rfl
 refine take_ (i:=11) (N:=some 15) (v:=?_) (a':=?_) #[T_,T_,T_,T_,T_,T_,T_,F_,T_,T_,T_,T_,F_,F_,F_,F_,F_,F_,F_,F_,F_,F_,F_,F_,F_,F_,F_,F_,F_,F_] rfl rfl (by kernel_rfl) (fun _ _ _ h=>h) (Or.inl ⟨by rfl,?_⟩) hHeld ?_ ?_
 rotate_left
 ·rintro w' ⟨s0,s1,s2,s3,s4,s5,s6,s7,s8,s9,s10,s11,s12,s13,s14,s15⟩
  go_simp
  with_reducible rfl
 rotate_left
 ·simp only [Act.put,List.setIfInBounds_toArray,List.set_cons_zero,List.set_cons_succ,i64_w,i32_w]
  rfl
 refine one_ (i:=7) (N:=some 11) #[T_,T_,T_,T_,T_,T_,T_,T_,T_,T_,T_,T_,F_,F_,F_,F_,F_,F_,F_,F_,F_,F_,F_,F_,F_,F_,F_,F_,F_,F_] rfl rfl (by kernel_rfl) (by decide) (fun K hK=>?_)
 refine goes_ Tryd.func43 (by kernel_rfl) rfl #[.agg #[.int .u64 b0,.bool s0,.int .u64 b1,.bool s1,.int .u64 b2,.bool s2,.int .u64 b3,.bool s3,.int .u64 b4,.bool s4]] (by rfl) rfl rfl (by simp only [List.map_toArray,List.map_cons,List.map_nil]; rfl) ?_
 with_reducible refine (BY.out _).mono ?_
 rintro e w3 ⟨rfl,HG,hb⟩
 refine ⟨_,rfl,?_⟩
 have R_:Aside0 (Spc.Row w3 gx b0 s0 b1 s1 b2 s2 b3 s3 b4 s4):=Dy.stepR (by assumption) hb
 have C_:Aside0 (Dy.Cv w3 gc cy cm cd ch cn cw):=Dy.stepC (by assumption) hb
 have B_:Aside0 (Below W.heap.size W w3):=Dy.stepB (by assumption) hb
 clear hb
 obtain ⟨k0,k1,k2,k3,k4,k5,k6,k7,k8,k9,q0,q1,q2,q3,q4,q5⟩ :=Dy.SM_of R_ C_
 refine hK.out _ _ ⟨k0,k1,k2,k3,k4,k5,k6,k7,k8,k9,q0,q1,q2,q3,q4,q5⟩ (fun hHeld=>?_)
 clear hK K
 refine norm_ (a':=?_) ?_ ?_
 rotate_left
 ·show Act.put _ (some 11) _=_
  simp only [Act.put,List.setIfInBounds_toArray,List.set_cons_zero,List.set_cons_succ,i64_w,i32_w]
  rfl
 refine one_ (i:=12) (N:=some 16) #[T_,T_,T_,T_,T_,T_,T_,T_,T_,T_,T_,T_,T_,F_,F_,F_,F_,F_,F_,F_,F_,F_,F_,F_,F_,F_,F_,F_,F_,F_] rfl rfl (by kernel_rfl) (by decide) (fun K hK=>?_)
 have hE_:=he_.out
 refine call_ f #[.int .i64 cd,.int .i64 cw,.pointer (some ⟨_,0,none⟩)] (by rfl) rfl (by unfold execOp; simp [resolve,Deferred.ofValue,invoke,Act.eval,hE_]; rfl) ?_
 clear hE_
 with_reducible refine (CC.out _ _ HG).mono ?_
 rintro e w3 ⟨rfl,hb⟩
 refine ⟨_,rfl,?_⟩
 have R_:Aside0 (Spc.Row w3 gx b0 s0 b1 s1 b2 s2 b3 s3 b4 s4):=Dy.stepR (by assumption) hb
 have C_:Aside0 (Dy.Cv w3 gc cy cm cd ch cn cw):=Dy.stepC (by assumption) hb
 have B_:Aside0 (Below W.heap.size W w3):=Dy.stepB (by assumption) hb
 clear hb
 obtain ⟨k0,k1,k2,k3,k4,k5,k6,k7,k8,k9,q0,q1,q2,q3,q4,q5⟩ :=Dy.SM_of R_ C_
 refine hK.out _ _ ⟨k0,k1,k2,k3,k4,k5,k6,k7,k8,k9,q0,q1,q2,q3,q4,q5⟩ (fun hHeld=>?_)
 clear hK K
 refine norm_ (a':=?_) ?_ ?_
 rotate_left
 ·show Act.put _ (some 16) _=_
  simp only [Act.put,List.setIfInBounds_toArray,List.set_cons_zero,List.set_cons_succ,i64_w,i32_w]
  rfl
 refine pure_ (i:=13) (N:=some 17) (v:=?_) (a':=?_) #[T_,T_,T_,T_,T_,T_,T_,T_,T_,T_,T_,T_,T_,T_,F_,F_,F_,F_,F_,F_,F_,F_,F_,F_,F_,F_,F_,F_,F_,F_] rfl rfl (by kernel_rfl) (fun _ _ _ h=>h) (Or.inl ⟨by rfl,?_⟩) ?_ ?_
 rotate_left
 ·intro w'
  go_simp
  with_reducible rfl
 rotate_left
 ·simp only [Act.put,List.setIfInBounds_toArray,List.set_cons_zero,List.set_cons_succ,i64_w,i32_w]
  rfl
 refine pure_ (i:=14) (N:=some 18) (v:=?_) (a':=?_) #[T_,T_,T_,T_,T_,T_,T_,T_,T_,T_,T_,T_,T_,T_,T_,F_,F_,F_,F_,F_,F_,F_,F_,F_,F_,F_,F_,F_,F_,F_] rfl rfl (by kernel_rfl) (fun _ _ _ h=>h) (Or.inl ⟨by rfl,?_⟩) ?_ ?_
 rotate_left
 ·intro w'
  go_simp
  with_reducible rfl
 rotate_left
 ·simp only [Act.put,List.setIfInBounds_toArray,List.set_cons_zero,List.set_cons_succ,i64_w,i32_w]
  rfl
 refine pure_ (i:=15) (N:=some 19) (v:=?_) (a':=?_) #[T_,T_,T_,T_,T_,T_,T_,T_,T_,T_,T_,T_,T_,T_,T_,T_,F_,F_,F_,F_,F_,F_,F_,F_,F_,F_,F_,F_,F_,F_] rfl rfl (by kernel_rfl) (fun _ _ _ h=>h) (Or.inl ⟨by rfl,?_⟩) ?_ ?_
 rotate_left
 ·intro w'
  go_simp
  with_reducible rfl
 rotate_left
 ·simp only [Act.put,List.setIfInBounds_toArray,List.set_cons_zero,List.set_cons_succ,i64_w,i32_w]
  rfl
 refine pure_ (i:=17) (N:=some 21) (v:=?_) (a':=?_) #[T_,T_,T_,T_,T_,T_,T_,T_,T_,T_,T_,T_,T_,T_,T_,T_,F_,T_,F_,F_,F_,F_,F_,F_,F_,F_,F_,F_,F_,F_] rfl rfl (by kernel_rfl) (fun _ _ _ h=>h) (Or.inl ⟨by rfl,?_⟩) ?_ ?_
 rotate_left
 ·intro w'
  go_simp
  with_reducible rfl
 rotate_left
 ·simp only [Act.put,List.setIfInBounds_toArray,List.set_cons_zero,List.set_cons_succ,i64_w,i32_w]
  rfl
 refine take_ (i:=16) (N:=some 20) (v:=?_) (a':=?_) #[T_,T_,T_,T_,T_,T_,T_,T_,T_,T_,T_,T_,T_,T_,T_,T_,T_,T_,F_,F_,F_,F_,F_,F_,F_,F_,F_,F_,F_,F_] rfl rfl (by kernel_rfl) (fun _ _ _ h=>h) (Or.inl ⟨by rfl,?_⟩) hHeld ?_ ?_
 rotate_left
 ·rintro w' ⟨s0,s1,s2,s3,s4,s5,s6,s7,s8,s9,s10,s11,s12,s13,s14,s15⟩
  go_simp
  with_reducible rfl
 rotate_left
 ·simp only [Act.put,List.setIfInBounds_toArray,List.set_cons_zero,List.set_cons_succ,i64_w,i32_w]
  rfl
 refine take_ (i:=18) (N:=some 22) (v:=?_) (a':=?_) #[T_,T_,T_,T_,T_,T_,T_,T_,T_,T_,T_,T_,T_,T_,T_,T_,T_,T_,T_,F_,F_,F_,F_,F_,F_,F_,F_,F_,F_,F_] rfl rfl (by kernel_rfl) (fun _ _ _ h=>h) (Or.inl ⟨by rfl,?_⟩) hHeld ?_ ?_
 rotate_left
 ·rintro w' ⟨s0,s1,s2,s3,s4,s5,s6,s7,s8,s9,s10,s11,s12,s13,s14,s15⟩
  go_simp
  with_reducible rfl
 rotate_left
 ·simp only [Act.put,List.setIfInBounds_toArray,List.set_cons_zero,List.set_cons_succ,i64_w,i32_w]
  rfl
 refine one_ (i:=19) (N:=some 23) #[T_,T_,T_,T_,T_,T_,T_,T_,T_,T_,T_,T_,T_,T_,T_,T_,T_,T_,T_,T_,F_,F_,F_,F_,F_,F_,F_,F_,F_,F_] rfl rfl (by kernel_rfl) (by decide) (fun K hK=>?_)
 refine goes_ Tryd.func42 (by kernel_rfl) rfl #[.agg #[.int .u64 b1,.bool s1],.int .i64 ch] (by rfl) rfl rfl (by simp only [List.map_toArray,List.map_cons,List.map_nil]; rfl) ?_
 with_reducible refine (field_Has.calls b1 s1 ch true _ A1.out).mono ?_
 rintro e w3 ⟨rfl,hb⟩
 refine ⟨_,rfl,?_⟩
 have R_:Aside0 (Spc.Row w3 gx b0 s0 b1 s1 b2 s2 b3 s3 b4 s4):=Dy.stepR (by assumption) hb
 have C_:Aside0 (Dy.Cv w3 gc cy cm cd ch cn cw):=Dy.stepC (by assumption) hb
 have B_:Aside0 (Below W.heap.size W w3):=Dy.stepB (by assumption) hb
 clear hb
 obtain ⟨k0,k1,k2,k3,k4,k5,k6,k7,k8,k9,q0,q1,q2,q3,q4,q5⟩ :=Dy.SM_of R_ C_
 refine hK.out _ _ ⟨k0,k1,k2,k3,k4,k5,k6,k7,k8,k9,q0,q1,q2,q3,q4,q5⟩ (fun hHeld=>?_)
 clear hK K
 refine norm_ (a':=?_) ?_ ?_
 rotate_left
 ·show Act.put _ (some 23) _=_
  simp only [Act.put,List.setIfInBounds_toArray,List.set_cons_zero,List.set_cons_succ,i64_w,i32_w]
  rfl
 refine pure_ (i:=20) (N:=some 24) (v:=?_) (a':=?_) #[T_,T_,T_,T_,T_,T_,T_,T_,T_,T_,T_,T_,T_,T_,T_,T_,T_,T_,T_,T_,T_,F_,F_,F_,F_,F_,F_,F_,F_,F_] rfl rfl (by kernel_rfl) (fun _ _ _ h=>h) (Or.inl ⟨by rfl,?_⟩) ?_ ?_
 rotate_left
 ·intro w'
  go_simp
  with_reducible rfl
 rotate_left
 ·simp only [Act.put,List.setIfInBounds_toArray,List.set_cons_zero,List.set_cons_succ,i64_w,i32_w]
  rfl
 refine pure_ (i:=21) (N:=some 25) (v:=?_) (a':=?_) #[T_,T_,T_,T_,T_,T_,T_,T_,T_,T_,T_,T_,T_,T_,T_,T_,T_,T_,T_,T_,T_,T_,F_,F_,F_,F_,F_,F_,F_,F_] rfl rfl (by kernel_rfl) (fun _ _ _ h=>h) (Or.inl ⟨by rfl,?_⟩) ?_ ?_
 rotate_left
 ·intro w'
  go_simp
  with_reducible rfl
 rotate_left
 ·simp only [Act.put,List.setIfInBounds_toArray,List.set_cons_zero,List.set_cons_succ,i64_w,i32_w]
  rfl
 refine pure_ (i:=22) (N:=some 26) (v:=?_) (a':=?_) #[T_,T_,T_,T_,T_,T_,T_,T_,T_,T_,T_,T_,T_,T_,T_,T_,T_,T_,T_,T_,T_,T_,T_,F_,F_,F_,F_,F_,F_,F_] rfl rfl (by kernel_rfl) (fun _ _ _ h=>h) (Or.inl ⟨by rfl,?_⟩) ?_ ?_
 rotate_left
 ·intro w'
  go_simp
  with_reducible rfl
 rotate_left
 ·simp only [Act.put,List.setIfInBounds_toArray,List.set_cons_zero,List.set_cons_succ,i64_w,i32_w]
  rfl
 refine pure_ (i:=24) (N:=some 28) (v:=?_) (a':=?_) #[T_,T_,T_,T_,T_,T_,T_,T_,T_,T_,T_,T_,T_,T_,T_,T_,T_,T_,T_,T_,T_,T_,T_,F_,T_,F_,F_,F_,F_,F_] rfl rfl (by kernel_rfl) (fun _ _ _ h=>h) (Or.inl ⟨by rfl,?_⟩) ?_ ?_
 rotate_left
 ·intro w'
  go_simp
  with_reducible rfl
 rotate_left
 ·simp only [Act.put,List.setIfInBounds_toArray,List.set_cons_zero,List.set_cons_succ,i64_w,i32_w]
  rfl
 refine take_ (i:=23) (N:=some 27) (v:=?_) (a':=?_) #[T_,T_,T_,T_,T_,T_,T_,T_,T_,T_,T_,T_,T_,T_,T_,T_,T_,T_,T_,T_,T_,T_,T_,T_,T_,F_,F_,F_,F_,F_] rfl rfl (by kernel_rfl) (fun _ _ _ h=>h) (Or.inl ⟨by rfl,?_⟩) hHeld ?_ ?_
 rotate_left
 ·rintro w' ⟨s0,s1,s2,s3,s4,s5,s6,s7,s8,s9,s10,s11,s12,s13,s14,s15⟩
  go_simp
  with_reducible rfl
 rotate_left
 ·simp only [Act.put,List.setIfInBounds_toArray,List.set_cons_zero,List.set_cons_succ,i64_w,i32_w]
  rfl
 refine take_ (i:=25) (N:=some 29) (v:=?_) (a':=?_) #[T_,T_,T_,T_,T_,T_,T_,T_,T_,T_,T_,T_,T_,T_,T_,T_,T_,T_,T_,T_,T_,T_,T_,T_,T_,T_,F_,F_,F_,F_] rfl rfl (by kernel_rfl) (fun _ _ _ h=>h) (Or.inl ⟨by rfl,?_⟩) hHeld ?_ ?_
 rotate_left
 ·rintro w' ⟨s0,s1,s2,s3,s4,s5,s6,s7,s8,s9,s10,s11,s12,s13,s14,s15⟩
  go_simp
  with_reducible rfl
 rotate_left
 ·simp only [Act.put,List.setIfInBounds_toArray,List.set_cons_zero,List.set_cons_succ,i64_w,i32_w]
  rfl
 refine one_ (i:=26) (N:=some 30) #[T_,T_,T_,T_,T_,T_,T_,T_,T_,T_,T_,T_,T_,T_,T_,T_,T_,T_,T_,T_,T_,T_,T_,T_,T_,T_,T_,F_,F_,F_] rfl rfl (by kernel_rfl) (by decide) (fun K hK=>?_)
 refine goes_ Tryd.func42 (by kernel_rfl) rfl #[.agg #[.int .u64 b0,.bool s0],.int .i64 cn] (by rfl) rfl rfl (by simp only [List.map_toArray,List.map_cons,List.map_nil]; rfl) ?_
 with_reducible refine (field_Has.calls b0 s0 cn x _ A0.out).mono ?_
 rintro e w3 ⟨rfl,hb⟩
 refine ⟨_,rfl,?_⟩
 have R_:Aside0 (Spc.Row w3 gx b0 s0 b1 s1 b2 s2 b3 s3 b4 s4):=Dy.stepR (by assumption) hb
 have C_:Aside0 (Dy.Cv w3 gc cy cm cd ch cn cw):=Dy.stepC (by assumption) hb
 have B_:Aside0 (Below W.heap.size W w3):=Dy.stepB (by assumption) hb
 clear hb
 obtain ⟨k0,k1,k2,k3,k4,k5,k6,k7,k8,k9,q0,q1,q2,q3,q4,q5⟩ :=Dy.SM_of R_ C_
 refine hK.out _ _ ⟨k0,k1,k2,k3,k4,k5,k6,k7,k8,k9,q0,q1,q2,q3,q4,q5⟩ (fun hHeld=>?_)
 clear hK K
 refine norm_ (a':=?_) ?_ ?_
 rotate_left
 ·show Act.put _ (some 30) _=_
  simp only [Act.put,List.setIfInBounds_toArray,List.set_cons_zero,List.set_cons_succ,i64_w,i32_w]
  rfl
 refine pure_ (i:=27) (N:=some 31) (v:=?_) (a':=?_) #[T_,T_,T_,T_,T_,T_,T_,T_,T_,T_,T_,T_,T_,T_,T_,T_,T_,T_,T_,T_,T_,T_,T_,T_,T_,T_,T_,T_,F_,F_] rfl rfl (by kernel_rfl) (fun _ _ _ h=>h) (Or.inl ⟨by rfl,?_⟩) ?_ ?_
 rotate_left
 ·intro w'
  go_simp
  with_reducible rfl
 rotate_left
 ·simp only [Act.put,List.setIfInBounds_toArray,List.set_cons_zero,List.set_cons_succ,i64_w,i32_w]
  rfl
 refine pure_ (i:=28) (N:=some 2) (v:=?_) (a':=?_) #[T_,T_,T_,T_,T_,T_,T_,T_,T_,T_,T_,T_,T_,T_,T_,T_,T_,T_,T_,T_,T_,T_,T_,T_,T_,T_,T_,T_,T_,F_] rfl rfl (by kernel_rfl) (fun _ _ _ h=>h) (Or.inl ⟨by rfl,?_⟩) ?_ ?_
 rotate_left
 ·intro w'
  go_simp
  with_reducible rfl
 rotate_left
 ·simp only [Act.put,List.setIfInBounds_toArray,List.set_cons_zero,List.set_cons_succ,i64_w,i32_w]
  rfl
 refine pure_ (i:=29) (N:=some 3) (v:=?_) (a':=?_) #[T_,T_,T_,T_,T_,T_,T_,T_,T_,T_,T_,T_,T_,T_,T_,T_,T_,T_,T_,T_,T_,T_,T_,T_,T_,T_,T_,T_,T_,T_] rfl rfl (by kernel_rfl) (fun _ _ _ h=>h) (Or.inl ⟨by rfl,?_⟩) ?_ ?_
 rotate_left
 ·intro w'
  go_simp
  with_reducible rfl
 rotate_left
 ·simp only [Act.put,List.setIfInBounds_toArray,List.set_cons_zero,List.set_cons_succ,i64_w,i32_w]
  rfl
 refine done_ (by kernel_rfl) ?_
 go_wp2
 go_ret2
 exact ⟨rfl,B_.out⟩
theorem Dy.match11 (gx gc:Nat)(b0:Int)(s0:Bool)(b1:Int)(s1:Bool)(b2:Int)(s2:Bool)(b3:Int)(s3:Bool)(b4:Int)(s4:Bool)(cy cm cd ch cn cw:Int)(W:World)(hR:Spc.Row W gx b0 s0 b1 s1 b2 s2 b3 s3 b4 s4)(hC:Dy.Cv W gc cy cm cd ch cn cw)(h0:Dy.InU b0)(h1:Dy.InU b1)(h2:Dy.InU b2)(h3:Dy.InU b3)(h4:Dy.InU b4) :
  Calls Tryd.prog 41 #[.pointer (some ⟨gx,0,none⟩),.pointer (some ⟨gc,0,none⟩)] W fun e w'=>e=.returned (.tuple #[.bool (Dy.has b3 cm && Dy.by_ b2 s2 b4 s4 cd cw && Dy.has b1 ch && Dy.has b0 cn),.int .i64 0])∧Below W.heap.size W w':=by
 cases e3:Dy.has b3 cm with
 | false=>exact Dy.match_0 gx gc b0 s0 b1 s1 b2 s2 b3 s3 b4 s4 cy cm cd ch cn cw W hR hC h0 h1 h2 h3 h4 e3
 | true=>
  have key:∃ f:FuncId,(∀ (V:World) (xs:Array Value),(callFunc f xs).run Tryd.prog V=.ok (.enter f xs) V)∧
    (∀ V:World,Calls Tryd.prog 43 #[.agg #[.int .u64 b0,.bool s0,.int .u64 b1,.bool s1,.int .u64 b2,.bool s2,.int .u64 b3,.bool s3,.int .u64 b4,.bool s4]] V fun e w'=>e=.returned (.func (.func f) #[] #[.pointer (some ⟨V.heap.size,0,none⟩)])∧Aside0 (Spc.Row w' V.heap.size b0 s0 b1 s1 b2 s2 b3 s3 b4 s4)∧Below V.heap.size V w')∧
    (∀ (g:Nat) (V:World),Aside0 (Spc.Row V g b0 s0 b1 s1 b2 s2 b3 s3 b4 s4)→Calls Tryd.prog f #[.int .i64 cd,.int .i64 cw,.pointer (some ⟨g,0,none⟩)] V fun e w'=>e=.returned (.bool (Dy.by_ b2 s2 b4 s4 cd cw))∧Below V.heap.size V w'):=by
   by_cases hs:s2=false∧s4=false
   ·refine ⟨70,fun V xs=>enters_ Tryd.func70 (by kernel_rfl) rfl xs V,fun V=>Dy.by_calls1 b0 s0 b1 s1 b2 s2 b3 s3 b4 s4 hs V,fun g V hV=>?_⟩
    rw [Dy.by_,if_pos hs]
    exact Dy.by1_calls g b0 s0 b1 s1 b2 s2 b3 s3 b4 s4 _ _ V hV.out h2 h4
   ·refine ⟨71,fun V xs=>enters_ Tryd.func71 (by kernel_rfl) rfl xs V,fun V=>Dy.by_calls2 b0 s0 b1 s1 b2 s2 b3 s3 b4 s4 hs V,fun g V hV=>?_⟩
    rw [Dy.by_,if_neg hs]
    exact Dy.by2_calls g b0 s0 b1 s1 b2 s2 b3 s3 b4 s4 _ _ V hV.out h2 h4
  obtain ⟨f,hE,BY,CC⟩ :=key
  cases eb:Dy.by_ b2 s2 b4 s4 cd cw with
  | false=>
   rw [eb] at CC
   exact Dy.match_f gx gc b0 s0 b1 s1 b2 s2 b3 s3 b4 s4 cy cm cd ch cn cw W hR hC h0 h1 h2 h3 h4 f hE BY CC e3
  | true=>
   rw [eb] at CC
   cases e1:Dy.has b1 ch with
   | false=>exact Dy.match_h gx gc b0 s0 b1 s1 b2 s2 b3 s3 b4 s4 cy cm cd ch cn cw W hR hC h0 h1 h2 h3 h4 f hE BY CC e3 e1
   | true=>exact Dy.match_m gx gc b0 s0 b1 s1 b2 s2 b3 s3 b4 s4 cy cm cd ch cn cw W hR hC h0 h1 h2 h3 h4 f hE BY CC e3 e1 _ rfl
def Dy.match1 (b0 b1 b2:Int)(s2:Bool)(b3 b4:Int)(s4:Bool)(t:Int):Bool × Int:=if t < 0∨541727999 < t then (false,1) else (Dy.at_ b0 b1 b2 s2 b3 b4 s4 t,0)
set_option maxHeartbeats 8000000 in
set_option maxRecDepth 100000 in
theorem Dy.match1_calls (gx gt:Nat)(b0:Int)(s0:Bool)(b1:Int)(s1:Bool)(b2:Int)(s2:Bool)(b3:Int)(s3:Bool)(b4:Int)(s4:Bool)(t:Int)(W:World)(hR:Spc.Row W gx b0 s0 b1 s1 b2 s2 b3 s3 b4 s4)(ht:W.heap[gt]?=some (.cells #[.int .i64 t] 3 (0,0)))(h0:Dy.InU b0)(h1:Dy.InU b1)(h2:Dy.InU b2)(h3:Dy.InU b3)(h4:Dy.InU b4) :
  Calls Tryd.prog 40 #[.pointer (some ⟨gt,0,none⟩),.pointer (some ⟨gx,0,none⟩)] W fun e w'=>e=.returned (.tuple #[.bool (Dy.match1 b0 b1 b2 s2 b3 b4 s4 t).1,.int .i64 (Dy.match1 b0 b1 b2 s2 b3 b4 s4 t).2])∧Below W.heap.size W w':=by
 obtain ⟨cy,cm,cd,ch,cn,cw,e0,hd⟩:∃ cy cm cd ch cn cw e0,Civ.of t=(cy,cm,cd,ch,cn,cw,e0):=⟨_,_,_,_,_,_,_,rfl⟩
 have AD:=Lib.hid ((Civ.of_f t 100 (by decide)).trans (congrArg some hd))
 have HB:=Aside0.mk (Below.refl W.heap.size W)
 have d0:W.cell? ⟨gt,0,none⟩=some (.int .i64 t):=(blk_cell ht 0).trans rfl
 have HR:=Aside0.mk hR
 by_cases hr:t < 0∨541727999 < t
 ·have hM:Dy.match1 b0 b1 b2 s2 b3 b4 s4 t=(false,1):=if_pos hr
  rw [hM]
  have he:e0=1:=by
   unfold Civ.of at hd
   rw [if_pos hr] at hd
   injection hd with _ hd; injection hd with _ hd; injection hd with _ hd; injection hd with _ hd; injection hd with _ hd; injection hd with _ hd
   exact hd.symm
  subst he
  clear hR ht h0 h1 h2 h3 h4 hd hr hM
  go_enter Tryd.func40,Tryd.ntmps40
  go_wp2_with fail
  refine (civil_Of.calls 100 t cy cm cd ch cn cw 1 _ AD.out).mono ?_
  rintro e V ⟨rfl,hb⟩
  have HB2:=Aside0.mk (below_step HB.out hb)
  clear d0 HR HB AD hb
  go_wp2_with fail
  refine (Dy.unB_yes 1 _ _ _).mono ?_
  rintro e w' ⟨rfl,rfl⟩
  have HB3:=Aside0.mk (below_alloc HB2.out (.cells #[.int .i64 cy,.int .i64 cm,.int .i64 cd,.int .i64 ch,.int .i64 cn,.int .i64 cw] 66))
  clear HB2
  go_wp2_with fail
  go_ret2
  exact ⟨rfl,HB3.out⟩
 ·have hM:Dy.match1 b0 b1 b2 s2 b3 b4 s4 t=(Dy.has b3 cm && Dy.by_ b2 s2 b4 s4 cd cw && Dy.has b1 ch && Dy.has b0 cn,0)∧e0=0:=by
   unfold Civ.of at hd
   rw [if_neg hr] at hd
   injection hd with hd1 hd; injection hd with hd2 hd; injection hd with hd3 hd; injection hd with hd4 hd; injection hd with hd5 hd; injection hd with hd6 hd
   unfold Dy.match1 Dy.at_
   rw [if_neg hr,hd2,hd3,hd4,hd5,hd6]
   exact ⟨rfl,hd.symm⟩
  obtain ⟨hM,rfl⟩ :=hM
  rw [hM]
  have CC:Hid (∀ (gc:Nat) (V:World),Spc.Row V gx b0 s0 b1 s1 b2 s2 b3 s3 b4 s4→Dy.Cv V gc cy cm cd ch cn cw→Calls Tryd.prog 41 #[.pointer (some ⟨gx,0,none⟩),.pointer (some ⟨gc,0,none⟩)] V fun e w'=>e=.returned (.tuple #[.bool (Dy.has b3 cm && Dy.by_ b2 s2 b4 s4 cd cw && Dy.has b1 ch && Dy.has b0 cn),.int .i64 0])∧Below V.heap.size V w'):=
   Lib.hid (fun gc V hV hC=>Dy.match11 gx gc b0 s0 b1 s1 b2 s2 b3 s3 b4 s4 cy cm cd ch cn cw V hV hC h0 h1 h2 h3 h4)
  obtain ⟨R,hRR⟩:∃ R,(Dy.has b3 cm && Dy.by_ b2 s2 b4 s4 cd cw && Dy.has b1 ch && Dy.has b0 cn)=R:=⟨_,rfl⟩
  rw [hRR] at CC ⊢
  clear hR ht h0 h1 h2 h3 h4 hd hr hM hRR
  go_enter Tryd.func40,Tryd.ntmps40
  go_wp2_with fail
  refine (civil_Of.calls 100 t cy cm cd ch cn cw 0 _ AD.out).mono ?_
  rintro e V ⟨rfl,hb⟩
  have HB2:=Aside0.mk (below_step HB.out hb)
  have HR2:Aside0 (Spc.Row V gx b0 s0 b1 s1 b2 s2 b3 s3 b4 s4):=Aside0.mk (blk_below HR.out hb)
  clear d0 HR HB AD hb
  go_wp2_with fail
  refine (Dy.unB_Match11 1 ⟨gx,0,none⟩ _ _ R 0 (CC.out _ _ (blk_alloc HR2.out _) (blk_new V _))).mono ?_
  rintro e w' ⟨rfl,hb⟩
  have HB3:=Aside0.mk (below_step (below_alloc HB2.out _) hb)
  clear HB2 HR2 hb
  go_wp2_with fail
  go_ret2
  exact ⟨rfl,HB3.out⟩
/-! This session's own: day.Mask, day.Match and day.Minutes. -/
set_option maxHeartbeats 8000000 in
set_option maxRecDepth 100000 in
theorem Dy.mask_top (b0:Int)(s0:Bool)(b1:Int)(s1:Bool)(b2:Int)(s2:Bool)(b3:Int)(s3:Bool)(b4:Int)(s4:Bool)(y m:Int)(ob:Bool)(A:day_odd.f b0 s0 b1 s1 b2 s2 b3 s3 b4 s4=some ob)(W:World)(h2:Dy.InU b2)(h3:Dy.InU b3)(h4:Dy.InU b4) :
  Calls Tryd.prog 61 #[.agg #[.int .u64 b0,.bool s0,.int .u64 b1,.bool s1,.int .u64 b2,.bool s2,.int .u64 b3,.bool s3,.int .u64 b4,.bool s4],.int .i64 y,.int .i64 m] W fun e w'=>e=.returned (.tuple #[.int .u32 (Dy.mask ob b2 s2 b3 b4 s4 y m).1,.int .i64 (Dy.mask ob b2 s2 b3 b4 s4 y m).2])∧Below W.heap.size W w':=by
 replace A:=Lib.hid A
 replace h2:=Lib.hid h2
 replace h3:=Lib.hid h3
 replace h4:=Lib.hid h4
 have HW:Aside0 ((((W.alloc (.cells #[.int .u64 b0,.bool s0,.int .u64 b1,.bool s1,.int .u64 b2,.bool s2,.int .u64 b3,.bool s3,.int .u64 b4,.bool s4] 26)).alloc (.cells #[.int .i64 y] 3)).alloc (.cells #[.int .i64 m] 3)).heap[W.heap.size]?=some (.cells #[.int .u64 b0,.bool s0,.int .u64 b1,.bool s1,.int .u64 b2,.bool s2,.int .u64 b3,.bool s3,.int .u64 b4,.bool s4] 26 (0,0))∧(((W.alloc (.cells #[.int .u64 b0,.bool s0,.int .u64 b1,.bool s1,.int .u64 b2,.bool s2,.int .u64 b3,.bool s3,.int .u64 b4,.bool s4] 26)).alloc (.cells #[.int .i64 y] 3)).alloc (.cells #[.int .i64 m] 3)).heap[W.heap.size+1]?=some (.cells #[.int .i64 y] 3 (0,0))∧(((W.alloc (.cells #[.int .u64 b0,.bool s0,.int .u64 b1,.bool s1,.int .u64 b2,.bool s2,.int .u64 b3,.bool s3,.int .u64 b4,.bool s4] 26)).alloc (.cells #[.int .i64 y] 3)).alloc (.cells #[.int .i64 m] 3)).heap[W.heap.size+2]?=some (.cells #[.int .i64 m] 3 (0,0))∧Below W.heap.size W (((W.alloc (.cells #[.int .u64 b0,.bool s0,.int .u64 b1,.bool s1,.int .u64 b2,.bool s2,.int .u64 b3,.bool s3,.int .u64 b4,.bool s4] 26)).alloc (.cells #[.int .i64 y] 3)).alloc (.cells #[.int .i64 m] 3))):=by
  refine ⟨⟨?_,?_,?_,?_⟩⟩
  ·exact blk_alloc (blk_alloc (blk_new W _) _) _
  ·have h:=blk_alloc (heap_alloc_new (W.alloc (.cells #[.int .u64 b0,.bool s0,.int .u64 b1,.bool s1,.int .u64 b2,.bool s2,.int .u64 b3,.bool s3,.int .u64 b4,.bool s4] 26)) (.cells #[.int .i64 y] 3)) (.cells #[.int .i64 m] 3)
   simpa using h
  ·have h:=heap_alloc_new ((W.alloc (.cells #[.int .u64 b0,.bool s0,.int .u64 b1,.bool s1,.int .u64 b2,.bool s2,.int .u64 b3,.bool s3,.int .u64 b4,.bool s4] 26)).alloc (.cells #[.int .i64 y] 3)) (.cells #[.int .i64 m] 3)
   simpa using h
  ·exact below_alloc (below_alloc (below_alloc (Below.refl _ _) _) _) _
 go_enter Tryd.func61,Tryd.ntmps61
 go_wp2_with fail
 generalize (((W.alloc (.cells #[.int .u64 b0,.bool s0,.int .u64 b1,.bool s1,.int .u64 b2,.bool s2,.int .u64 b3,.bool s3,.int .u64 b4,.bool s4] 26)).alloc (.cells #[.int .i64 y] 3)).alloc (.cells #[.int .i64 m] 3))=W3 at HW ⊢
 refine (day_odd.calls b0 s0 b1 s1 b2 s2 b3 s3 b4 s4 ob _ A.out).mono ?_
 rintro e V ⟨rfl,hb⟩
 obtain ⟨h0,h1,h2,hB⟩ :=HW.out
 have HB:=Aside0.mk (below_step hB hb)
 have H0:=Aside0.mk (blk_below h0 hb)
 have H1:=Aside0.mk (blk_below h1 hb)
 have H2:=Aside0.mk (blk_below h2 hb)
 clear HW hB hb A h0 h1 h2
 cases ob with
 | true=>
  go_wp2_with fail
  refine (Dy.un32_yes 2 _ _ _).mono ?_
  rintro e w' ⟨rfl,rfl⟩
  go_wp2_with fail
  go_ret2
  exact ⟨rfl,HB.out⟩
 | false=>
  go_wp2_with fail
  refine (Dy.un32_Mask1 2 ⟨W.heap.size+1,0,none⟩ ⟨W.heap.size+2,0,none⟩ ⟨W.heap.size,0,none⟩ _ _ _ (Dy.mask1_calls W.heap.size (W.heap.size+2) (W.heap.size+1) b0 s0 b1 s1 b2 s2 b3 s3 b4 s4 y m V H0.out H2.out H1.out h2.out h3.out h4.out)).mono ?_
  rintro e w' ⟨rfl,hb⟩
  have HB3:=Aside0.mk (below_step HB.out hb)
  clear HB hb
  go_wp2_with fail
  go_ret2
  exact ⟨rfl,HB3.out⟩
set_option maxHeartbeats 8000000 in
set_option maxRecDepth 100000 in
theorem Dy.match_top (b0:Int)(s0:Bool)(b1:Int)(s1:Bool)(b2:Int)(s2:Bool)(b3:Int)(s3:Bool)(b4:Int)(s4:Bool)(t:Int)(ob:Bool)(A:day_odd.f b0 s0 b1 s1 b2 s2 b3 s3 b4 s4=some ob)(W:World)(h0:Dy.InU b0)(h1:Dy.InU b1)(h2:Dy.InU b2)(h3:Dy.InU b3)(h4:Dy.InU b4) :
  Calls Tryd.prog 19 #[.agg #[.int .u64 b0,.bool s0,.int .u64 b1,.bool s1,.int .u64 b2,.bool s2,.int .u64 b3,.bool s3,.int .u64 b4,.bool s4],.int .i64 t] W fun e w'=>e=.returned (.tuple #[.bool (Dy.match_ ob b0 b1 b2 s2 b3 b4 s4 t).1,.int .i64 (Dy.match_ ob b0 b1 b2 s2 b3 b4 s4 t).2])∧Below W.heap.size W w':=by
 replace A:=Lib.hid A
 have q0:=Lib.hid h0
 have q1:=Lib.hid h1
 have q2:=Lib.hid h2
 have q3:=Lib.hid h3
 have q4:=Lib.hid h4
 clear h0 h1 h2 h3 h4
 have HW:Aside0 (((W.alloc (.cells #[.int .u64 b0,.bool s0,.int .u64 b1,.bool s1,.int .u64 b2,.bool s2,.int .u64 b3,.bool s3,.int .u64 b4,.bool s4] 26)).alloc (.cells #[.int .i64 t] 3)).heap[W.heap.size]?=some (.cells #[.int .u64 b0,.bool s0,.int .u64 b1,.bool s1,.int .u64 b2,.bool s2,.int .u64 b3,.bool s3,.int .u64 b4,.bool s4] 26 (0,0))∧((W.alloc (.cells #[.int .u64 b0,.bool s0,.int .u64 b1,.bool s1,.int .u64 b2,.bool s2,.int .u64 b3,.bool s3,.int .u64 b4,.bool s4] 26)).alloc (.cells #[.int .i64 t] 3)).heap[W.heap.size+1]?=some (.cells #[.int .i64 t] 3 (0,0))∧Below W.heap.size W ((W.alloc (.cells #[.int .u64 b0,.bool s0,.int .u64 b1,.bool s1,.int .u64 b2,.bool s2,.int .u64 b3,.bool s3,.int .u64 b4,.bool s4] 26)).alloc (.cells #[.int .i64 t] 3))):=by
  refine ⟨⟨?_,?_,?_⟩⟩
  ·exact blk_alloc (blk_new W _) _
  ·have h:=heap_alloc_new (W.alloc (.cells #[.int .u64 b0,.bool s0,.int .u64 b1,.bool s1,.int .u64 b2,.bool s2,.int .u64 b3,.bool s3,.int .u64 b4,.bool s4] 26)) (.cells #[.int .i64 t] 3)
   simpa using h
  ·exact below_alloc (below_alloc (Below.refl _ _) _) _
 go_enter Tryd.func19,Tryd.ntmps19
 go_wp2_with fail
 generalize ((W.alloc (.cells #[.int .u64 b0,.bool s0,.int .u64 b1,.bool s1,.int .u64 b2,.bool s2,.int .u64 b3,.bool s3,.int .u64 b4,.bool s4] 26)).alloc (.cells #[.int .i64 t] 3))=W3 at HW ⊢
 refine (day_odd.calls b0 s0 b1 s1 b2 s2 b3 s3 b4 s4 ob _ A.out).mono ?_
 rintro e V ⟨rfl,hb⟩
 obtain ⟨h0,h1,hB⟩ :=HW.out
 have HB:=Aside0.mk (below_step hB hb)
 have H0:=Aside0.mk (blk_below h0 hb)
 have H1:=Aside0.mk (blk_below h1 hb)
 clear HW hB hb A h0 h1
 cases ob with
 | true=>
  go_wp2_with fail
  refine (Dy.unB_yes 2 _ _ _).mono ?_
  rintro e w' ⟨rfl,rfl⟩
  go_wp2_with fail
  go_ret2
  exact ⟨rfl,HB.out⟩
 | false=>
  go_wp2_with fail
  refine (Dy.unB_Match1 2 ⟨W.heap.size+1,0,none⟩ ⟨W.heap.size,0,none⟩ _ _ _ (Dy.match1_calls W.heap.size (W.heap.size+1) b0 s0 b1 s1 b2 s2 b3 s3 b4 s4 t V H0.out H1.out q0.out q1.out q2.out q3.out q4.out)).mono ?_
  rintro e w' ⟨rfl,hb⟩
  have HB3:=Aside0.mk (below_step HB.out hb)
  clear HB hb
  go_wp2_with fail
  go_ret2
  exact ⟨rfl,HB3.out⟩
set_option maxHeartbeats 8000000 in
set_option maxRecDepth 100000 in
theorem Dy.minutes1 (gx:Nat)(b0:Int)(s0:Bool)(b1:Int)(s1:Bool)(b2:Int)(s2:Bool)(b3:Int)(s3:Bool)(b4:Int)(s4:Bool)(n1 n0:Int)(A1:field_Count.f b1 s1=some n1)(A0:field_Count.f b0 s0=some n0)(W:World)(hR:Spc.Row W gx b0 s0 b1 s1 b2 s2 b3 s3 b4 s4) :
  Calls Tryd.prog 59 #[.pointer (some ⟨gx,0,none⟩)] W fun e w'=>e=.returned (.tuple #[.int .i64 (wrap64 (n1*n0)),.int .i64 0])∧Below W.heap.size W w':=by
 replace A1:=Lib.hid A1
 replace A0:=Lib.hid A0
 have HR:Aside0 (Spc.Row W.drew gx b0 s0 b1 s1 b2 s2 b3 s3 b4 s4):=Aside0.mk (blk_drew hR)
 have HB:Aside0 (Below W.heap.size W W.drew):=Aside0.mk (below_drew1 (Below.refl _ _))
 obtain ⟨k0,k1,k2,k3,k4,k5,k6,k7,k8,k9⟩ :=HR.out.cells
 clear hR
 go_enter Tryd.func59,Tryd.ntmps59
 go_wp2
 go_region_with (go_at_call 60; refine (field_Count.calls _ _ _ _ (by first | (with_reducible exact A1.out) | (with_reducible exact A0.out))).mono ?_; rintro e w' ⟨rfl,hb⟩; have R_:Aside0 (Spc.Row w' gx b0 s0 b1 s1 b2 s2 b3 s3 b4 s4):=Dy.stepR (by assumption) hb; have B_:Aside0 (Below W.heap.size W w'):=Dy.stepB (by assumption) hb; clear hb; obtain ⟨k0,k1,k2,k3,k4,k5,k6,k7,k8,k9⟩ :=R_.out.cells)
 all_goals
  go_wp2
  go_ret2
  exact ⟨by rw [i64_w]; rfl,(by assumption:Aside0 (Below W.heap.size W _)).out⟩
set_option maxHeartbeats 8000000 in
set_option maxRecDepth 100000 in
theorem Dy.minutes_top (b0:Int)(s0:Bool)(b1:Int)(s1:Bool)(b2:Int)(s2:Bool)(b3:Int)(s3:Bool)(b4:Int)(s4:Bool)(n1 n0:Int)(A1:field_Count.f b1 s1=some n1)(A0:field_Count.f b0 s0=some n0)(ob:Bool)(A:day_odd.f b0 s0 b1 s1 b2 s2 b3 s3 b4 s4=some ob)(W:World)  :
  Calls Tryd.prog 33 #[.agg #[.int .u64 b0,.bool s0,.int .u64 b1,.bool s1,.int .u64 b2,.bool s2,.int .u64 b3,.bool s3,.int .u64 b4,.bool s4]] W fun e w'=>e=.returned (.tuple #[.int .i64 (if ob=true then ((0:Int),(2:Int)) else (wrap64 (n1*n0),0)).1,.int .i64 (if ob=true then ((0:Int),(2:Int)) else (wrap64 (n1*n0),0)).2])∧Below W.heap.size W w':=by
 replace A:=Lib.hid A
 replace A1:=Lib.hid A1
 replace A0:=Lib.hid A0
 have HW:Aside0 ((W.alloc (.cells #[.int .u64 b0,.bool s0,.int .u64 b1,.bool s1,.int .u64 b2,.bool s2,.int .u64 b3,.bool s3,.int .u64 b4,.bool s4] 26)).heap[W.heap.size]?=some (.cells #[.int .u64 b0,.bool s0,.int .u64 b1,.bool s1,.int .u64 b2,.bool s2,.int .u64 b3,.bool s3,.int .u64 b4,.bool s4] 26 (0,0))∧Below W.heap.size W (W.alloc (.cells #[.int .u64 b0,.bool s0,.int .u64 b1,.bool s1,.int .u64 b2,.bool s2,.int .u64 b3,.bool s3,.int .u64 b4,.bool s4] 26))):=by
  refine ⟨⟨?_,?_⟩⟩
  ·exact blk_new W _
  ·exact below_alloc (Below.refl _ _) _
 go_enter Tryd.func33,Tryd.ntmps33
 go_wp2_with fail
 generalize (W.alloc (.cells #[.int .u64 b0,.bool s0,.int .u64 b1,.bool s1,.int .u64 b2,.bool s2,.int .u64 b3,.bool s3,.int .u64 b4,.bool s4] 26))=W3 at HW ⊢
 refine (day_odd.calls b0 s0 b1 s1 b2 s2 b3 s3 b4 s4 ob _ A.out).mono ?_
 rintro e V ⟨rfl,hb⟩
 obtain ⟨h0,hB⟩ :=HW.out
 have HB:=Aside0.mk (below_step hB hb)
 have H0:=Aside0.mk (blk_below h0 hb)
 clear HW hB hb A h0
 cases ob with
 | true=>
  go_wp2_with fail
  refine (Dy.unI_yes 2 _ _ _).mono ?_
  rintro e w' ⟨rfl,rfl⟩
  go_wp2_with fail
  go_ret2
  exact ⟨rfl,HB.out⟩
 | false=>
  go_wp2_with fail
  refine (Dy.unI_Minutes1 2 ⟨W.heap.size,0,none⟩ _ _ _ (Dy.minutes1 W.heap.size b0 s0 b1 s1 b2 s2 b3 s3 b4 s4 n1 n0 A1.out A0.out V H0.out)).mono ?_
  rintro e w' ⟨rfl,hb⟩
  have HB3:=Aside0.mk (below_step HB.out hb)
  clear HB hb
  go_wp2_with fail
  go_ret2
  exact ⟨rfl,HB3.out⟩
set_option maxHeartbeats 8000000 in
set_option maxRecDepth 100000 in
theorem Dy.minutes_bad (b0:Int)(s0:Bool)(b1:Int)(s1:Bool)(b2:Int)(s2:Bool)(b3:Int)(s3:Bool)(b4:Int)(s4:Bool)(A:day_odd.f b0 s0 b1 s1 b2 s2 b3 s3 b4 s4=some true)(W:World) :
  Calls Tryd.prog 33 #[.agg #[.int .u64 b0,.bool s0,.int .u64 b1,.bool s1,.int .u64 b2,.bool s2,.int .u64 b3,.bool s3,.int .u64 b4,.bool s4]] W fun e w'=>e=.returned (.tuple #[.int .i64 0,.int .i64 2])∧Below W.heap.size W w':=by
 replace A:=Lib.hid A
 have HB:=Aside0.mk (below_alloc (Below.refl _ _) (.cells #[.int .u64 b0,.bool s0,.int .u64 b1,.bool s1,.int .u64 b2,.bool s2,.int .u64 b3,.bool s3,.int .u64 b4,.bool s4] 26) (w:=W))
 go_enter Tryd.func33,Tryd.ntmps33
 go_wp2_with fail
 refine (day_odd.calls b0 s0 b1 s1 b2 s2 b3 s3 b4 s4 true _ A.out).mono ?_
 rintro e V ⟨rfl,hb⟩
 have HB2:=Aside0.mk (below_step HB.out hb)
 clear HB hb A
 go_wp2_with fail
 refine (Dy.unI_yes 2 _ _ _).mono ?_
 rintro e w' ⟨rfl,rfl⟩
 go_wp2_with fail
 go_ret2
 exact ⟨rfl,HB2.out⟩
def day_Mask.f (a0_0:Int)(a0_1:Bool)(a0_2:Int)(a0_3:Bool)(a0_4:Int)(a0_5:Bool)(a0_6:Int)(a0_7:Bool)(a0_8:Int)(a0_9:Bool)(a1:Int)(a2:Int):Option (Int × Int):=if Dy.okS a0_0 a0_2 a0_4 a0_6 a0_8=true then (day_odd.f a0_0 a0_1 a0_2 a0_3 a0_4 a0_5 a0_6 a0_7 a0_8 a0_9).bind fun o=>some (Dy.mask o a0_4 a0_5 a0_6 a0_8 a0_9 a1 a2) else none
set_option maxHeartbeats 8000000 in
set_option maxRecDepth 100000 in
theorem day_Mask.calls (a0_0:Int)(a0_1:Bool)(a0_2:Int)(a0_3:Bool)(a0_4:Int)(a0_5:Bool)(a0_6:Int)(a0_7:Bool)(a0_8:Int)(a0_9:Bool)(a1:Int)(a2:Int)(r1:Int)(r2:Int)(w:World)(h:day_Mask.f a0_0 a0_1 a0_2 a0_3 a0_4 a0_5 a0_6 a0_7 a0_8 a0_9 a1 a2=some (r1,r2)) :
  Calls Tryd.prog 61 #[.agg #[.int .u64 a0_0,.bool a0_1,.int .u64 a0_2,.bool a0_3,.int .u64 a0_4,.bool a0_5,.int .u64 a0_6,.bool a0_7,.int .u64 a0_8,.bool a0_9],.int .i64 a1,.int .i64 a2] w fun e w'=>e=.returned (.tuple #[.int .u32 r1,.int .i64 r2])∧Below w.heap.size w w':=by
 have hh:(if Dy.okS a0_0 a0_2 a0_4 a0_6 a0_8=true then (day_odd.f a0_0 a0_1 a0_2 a0_3 a0_4 a0_5 a0_6 a0_7 a0_8 a0_9).bind fun o=>some (Dy.mask o a0_4 a0_5 a0_6 a0_8 a0_9 a1 a2) else none)=some (r1,r2):=h
 clear h
 by_cases hok:Dy.okS a0_0 a0_2 a0_4 a0_6 a0_8=true
 ·rw [if_pos hok] at hh
  obtain ⟨o,A,hm⟩ :=Option.bind_eq_some_iff.1 hh
  obtain ⟨h0,h1,h2,h3,h4⟩ :=of_decide_eq_true hok
  have k:=Dy.mask_top a0_0 a0_1 a0_2 a0_3 a0_4 a0_5 a0_6 a0_7 a0_8 a0_9 a1 a2 o A w h2 h3 h4
  rw [Option.some.inj hm] at k
  exact k
 ·rw [if_neg hok] at hh
  cases hh
end Go.Proofs.YtepflnfnkfkldaaDoor.PRea
