/- The document's show, as plain numbers. No condition. -/
import Derived.Test.YtcmmmlenaahaeaaGreatDoorPShwx13
import Derived.Test.YtcmmmlenaahaeaaGreatDoorPShwx14
import Derived.Test.YtcmmmlenaahaeaaGreatDoorPShwx16
import Derived.Test.YtcmmmlenaahaeaaGreatDoorPShwx18
import Derived.Test.YtcmmmlenaahaeaaGreatDoorPShwx19
import Derived.Test.YtcmmmlenaahaeaaGreatDoorShwLib
namespace Go.Proofs.YtcmmmlenaahaeaaGreatDoor.PShw
open Go.RowKit Go.Proofs.YtcmmmlenaahaeaaGreatDoorW.PrintWords Go.Proofs.YtcmmmlenaahaeaaGreatDoorW.PrintLast Go.Proofs.YtcmmmlenaahaeaaGreatDoorW.PrintMore
set_option linter.unusedVariables false
set_option linter.unusedSimpArgs false
theorem shr_nat (a n:Nat)(h:n < 64):shr .u64 (a:Int) (n:Int)=((a / 2 ^ n:Nat):Int):=by
  unfold shr
  rw [show min ((n:Int).toNat) (IntKind.bits .u64)=n by simp [IntKind.bits]; omega]
  rw [show (2:Int) ^ n=((2 ^ n:Nat):Int) by simp]
  simp
theorem shl_nat (a n:Nat)(h:n < 64):shl .u64 (a:Int) (n:Int)=((a*2 ^ n % 2 ^ 64:Nat):Int):=by
  unfold shl
  rw [u64w,show min ((n:Int).toNat) (IntKind.bits .u64)=n by simp [IntKind.bits]; omega]
  rw [show (2:Int) ^ n=((2 ^ n:Nat):Int) by simp]
  generalize 2 ^ n=q
  rw [show (2:Nat) ^ 64=18446744073709551616 by decide,Int.natCast_emod,Int.natCast_mul]
  rfl
theorem check_bad (b:Int)(s:Bool)(kind:Int)(hk:(Lex.limits kind).2.2≠0):field_Check.f b s kind=some (Lex.limits kind).2.2:=by
  unfold field_Check.f
  rw [Fld.limits_f]
  simp only [Option.bind_some]
  rw [if_neg hk]
/-! The reference's lex, in closed form. -/
def Lex.five (L:List ByteArray):List ByteArray × Int:=if L.length=5 then (L,0) else ([],2)
theorem Ref_half (x:Int)(h:InU x):IntKind.u64.wrap (Int.tdiv x 2)=((x.toNat / 2:Nat):Int):=by
  obtain ⟨n,rfl,hn⟩ :=nat_of x h
  rw [u64w,Int.toNat_natCast]
  have:Int.tdiv (n:Int) 2=((n / 2:Nat):Int):=by rw [Int.tdiv_eq_ediv_of_nonneg (by omega)]; omega
  rw [this]
  rw [show (2:Nat) ^ 64=18446744073709551616 by decide] at hn
  omega
theorem Ref_has_l:∀ (d i:Nat)(v:Int)(x:Int)(K:Nat),InU x→(i:Int)+d=v→v≤64→complineref18_Has.l0 (d+1+K) v x (i:Int)=some (bitAt x d)
  | 0,i,v,x,K,hx,hv,h64=>by
    rw [show 0+1+K=K+1 by omega,complineref18_Has.l0,if_neg (by omega)]
    obtain ⟨n,rfl,hn⟩ :=nat_of x hx
    congr 1
    unfold bitAt
    rw [Int.toNat_natCast,Nat.testBit_zero]
    rw [Int.tmod_eq_emod_of_nonneg (by omega)]
    rw [Bool.eq_iff_iff]
    simp only [beq_iff_eq,decide_eq_true_eq]
    omega
  | d+1,i,v,x,K,hx,hv,h64=>by
    have hw:wrap64 ((i:Int)+1)=((i+1:Nat):Int):=by unfold wrap64; omega
    rw [show d+1+1+K=(d+1+K)+1 by omega,complineref18_Has.l0,if_pos (by omega),Ref_half x hx,hw]
    have hx2:InU ((x.toNat / 2:Nat):Int):=by unfold InU at hx ⊢; omega
    rw [Ref_has_l d (i+1) v _ K hx2 (by omega) h64]
    unfold bitAt
    rw [Int.toNat_natCast,Nat.testBit_succ]
theorem Ref_has (b:Int)(s:Bool)(v:Nat)(hb:InU b)(hv:v < 64)(K:Nat):complineref18_Has.f (K+70) b s (v:Int)=some (bitAt b v):=by
  unfold complineref18_Has.f
  rw [if_neg (by omega),decide_eq_false (by omega),complineref18_Has.j0,if_neg (by decide)]
  rw [show K+69=v+1+(K+68 - v) by omega]
  exact Ref_has_l v 0 v b _ hb (by omega) (by omega)
/-- How many of the bits from v on, d of them, are set; and whether one lies out. -/
def cntF (f:Nat→Bool):Nat→Nat→Nat
  | _,0=>0
  | v,d+1=>(if f v then 1 else 0)+cntF f (v+1) d
def outF (f:Nat→Bool)(lo hi:Nat):Nat→Nat→Bool
  | _,0=>false
  | v,d+1=>(f v && (decide (v < lo) || decide (hi < v))) || outF f lo hi (v+1) d
def finF (lo hi:Nat)(s:Bool)(m:Nat):Option Int:=if (m:Int)=0 then some 2 else if s=true then (if (m:Int)=(hi:Int) - lo+1 then some 0 else some 2) else some 0
theorem Ref_check_l (b : Int) (s : Bool) (lo hi : Nat) (hb : InU b) (hh : lo ≤ hi) (h59 : hi ≤ 59) : ∀ (d v n K : Nat), v + d = 64 → n ≤ v →
    complineref18_Check.l0 (2*d+1+(K+72)) (lo:Int) (hi:Int) (n:Int) (v:Int) b s=if outF (bitAt b) lo hi v d=true then some 2 else finF lo hi s (n+cntF (bitAt b) v d)
  | 0,v,n,K,hv,hn=>by
    have hw:wrap64 (wrap64 ((hi:Int) - lo)+1)=(hi:Int) - lo+1:=by unfold wrap64; omega
    rw [show 2*0+1+(K+72)=(K+72)+1 by omega,complineref18_Check.l0,if_neg (by omega),hw]
    rfl
  | d+1,v,n,K,hv,hn=>by
    have hw:wrap64 ((v:Int)+1)=((v+1:Nat):Int):=by unfold wrap64; omega
    have hwn:wrap64 ((n:Int)+1)=((n+1:Nat):Int):=by unfold wrap64; omega
    rw [show 2*(d+1)+1+(K+72)=(2*d+1+(K+72)+1)+1 by omega,complineref18_Check.l0,if_pos (by omega)]
    rw [show 2*d+1+(K+72)+1=(2*d+K+4)+70 by omega,Ref_has b s v hb (by omega)]
    simp only [Option.bind_some]
    rw [show 2*d+K+4+70=(2*d+1+(K+72))+1 by omega]
    unfold outF cntF
    cases hbv:bitAt b v
    · rw [if_neg (by decide),complineref18_Check.j1,if_neg (by decide),if_neg (by decide),hw,Ref_check_l b s lo hi hb hh h59 d (v+1) n K (by omega) (by omega)]
      simp
    · rw [if_pos rfl]
      by_cases h1:(v:Int) < lo
      · rw [if_pos h1,complineref18_Check.j1,if_pos rfl]
        rw [decide_eq_true (by omega:v < lo)]
        rfl
      · rw [if_neg h1,complineref18_Check.j1]
        by_cases h2:(v:Int) > hi
        · rw [decide_eq_true h2,if_pos rfl,decide_eq_true (by omega:hi < v)]
          simp
        · rw [decide_eq_false h2,if_neg (by decide),if_pos rfl,hw,hwn,Ref_check_l b s lo hi hb hh h59 d (v+1) (n+1) K (by omega) (by omega)]
          rw [decide_eq_false (by omega:¬ v < lo),decide_eq_false (by omega:¬ hi < v)]
          simp [Nat.add_assoc]
theorem out_iff (f:Nat→Bool)(lo hi:Nat):∀ (d v:Nat),outF f lo hi v d=false↔∀ i,v≤i→i < v+d→f i=true→lo≤i∧i≤hi
  | 0,v=>⟨fun _ i h1 h2=>by omega,fun _=>rfl⟩
  | d+1,v=>by
    unfold outF
    rw [Bool.or_eq_false_iff,out_iff f lo hi d (v+1)]
    constructor
    · rintro ⟨h1,h2⟩ i h3 h4 h5
      by_cases hi':i=v
      · subst hi'
        rw [h5] at h1
        simp at h1
        omega
      · exact h2 i (by omega) (by omega) h5
    · intro h
      refine ⟨?_,fun i h1 h2 h3=>h i (by omega) (by omega) h3⟩
      cases hf:f v
      · rfl
      · have:=h v (by omega) (by omega) hf
        simp; omega
theorem cnt_zero (f:Nat→Bool):∀ (d v:Nat),cntF f v d=0↔∀ i,v≤i→i < v+d→f i=false
  | 0,v=>⟨fun _ i h1 h2=>by omega,fun _=>rfl⟩
  | d+1,v=>by
    unfold cntF
    constructor
    · intro h i h1 h2
      by_cases hi:i=v
      · subst hi; cases hf:f i; rfl; rw [hf] at h; simp at h
      · exact (cnt_zero f d (v+1)).1 (by omega) i (by omega) (by omega)
    · intro h
      rw [h v (by omega) (by omega),(cnt_zero f d (v+1)).2 (fun i h1 h2=>h i (by omega) (by omega))]
      rfl
theorem cnt_le (f g:Nat→Bool):∀ (d v:Nat),(∀ i,v≤i→i < v+d→f i=true→g i=true)→cntF f v d≤cntF g v d∧(cntF f v d=cntF g v d↔∀ i,v≤i→i < v+d→f i=g i)
  | 0,v,_=>⟨Nat.le_refl _,fun _ i h1 h2=>by omega,fun _=>rfl⟩
  | d+1,v,h=>by
    obtain ⟨h1,h2⟩ :=cnt_le f g d (v+1) (fun i a b c=>h i (by omega) (by omega) c)
    unfold cntF
    have h3:=h v (by omega) (by omega)
    constructor
    · cases hf:f v
      · simp; omega
      · rw [h3 hf]; simp; exact h1
    · constructor
      · intro he i a b
        by_cases hi:i=v
        · subst hi
          cases hf:f i
          · cases hg:g i
            · rfl
            · rw [hf,hg] at he; simp at he; omega
          · rw [h3 hf]
        · refine h2.1 ?_ i (by omega) (by omega)
          cases hf:f v
          · rw [hf] at he
            simp at he
            cases hg:g v
            · rw [hg] at he; simpa using he
            · rw [hg] at he; simp at he; omega
          · rw [hf,h3 hf] at he; simpa using he
      · intro he
        rw [he v (by omega) (by omega),h2.2 (fun i a b=>he i (by omega) (by omega))]
theorem cnt_ext (f g:Nat→Bool)(h:∀ i,f i=g i):∀ (d v:Nat),cntF f v d=cntF g v d
  | 0,_=>rfl
  | d+1,v=>by unfold cntF; rw [h v,cnt_ext f g h d (v+1)]
theorem Ref_check (b : Int) (s : Bool) (kind : Int) (lo hi : Nat) (hb : InU b) (hk : (Lex.limits kind).2.2 = 0) (hlo : (Lex.limits kind).1 = lo) (hhi : top kind = hi) (h1 : lo ≤ hi) (h2 : hi ≤ 59)
    (hl:complineref18_limits.f kind=some ((lo:Int),(hi:Int),0)) (hc:cntF (fun i=>decide (lo≤i) && decide (i≤hi)) 0 64=hi+1 - lo) (K:Nat) :
    complineref18_Check.f (K+201) b s kind=field_Check.f b s kind:=by
  rw [check_f b s kind lo hi hk hlo hhi h1 h2]
  unfold complineref18_Check.f
  rw [hl]
  simp only [Option.bind_some,if_true]
  have e:=Ref_check_l b s lo hi hb h1 h2 64 0 0 K (by omega) (by omega)
  rw [show 2*64+1+(K+72)=K+201 by omega] at e
  refine (show complineref18_Check.l0 (K+201) (lo:Int) (hi:Int) 0 0 b s=_ from e).trans ?_
  rw [Nat.zero_add]
  have hev:=ev_in lo hi (by omega)
  by_cases ho:outF (bitAt b) lo hi 0 64=true
  · rw [if_pos ho]
    by_cases hz:b=0
    · rw [if_pos hz]
    · rw [if_neg hz,if_neg]
      intro ha
      rw [andNot_zero _ _ hb hev] at ha
      have:outF (bitAt b) lo hi 0 64=false:=(out_iff _ _ _ _ _).2 (fun i _ hi6 hbi=>by
        have:=ha i (by omega) hbi
        rw [bit_ev lo hi i (by omega)] at this
        simp at this
        exact this)
      rw [this] at ho
      cases ho
  · rw [if_neg ho]
    have ho':outF (bitAt b) lo hi 0 64=false:=by simpa using ho
    have hin:=(out_iff _ _ _ _ _).1 ho'
    have hsub:∀ i,i < 64→bitAt b i=true→bitAt (evB lo hi) i=true:=by
      intro i hi6 hbi
      obtain ⟨q1,q2⟩ :=hin i (by omega) (by omega) hbi
      rw [bit_ev lo hi i (by omega),decide_eq_true q1,decide_eq_true q2]
      rfl
    have hz:cntF (bitAt b) 0 64=0↔b=0:=by
      rw [cnt_zero]
      constructor
      · intro h
        exact eq_of_bits hb (by unfold InU; omega) (fun i hi6=>by rw [h i (by omega) (by omega),bit_zero])
      · rintro rfl i _ _
        exact bit_zero i
    have hf:cntF (bitAt b) 0 64=hi+1 - lo↔b=evB lo hi:=by
      have q:=(cnt_le (bitAt b) (bitAt (evB lo hi)) 64 0 (fun i _ h4 h5=>hsub i (by omega) h5)).2
      have q2:cntF (bitAt (evB lo hi)) 0 64=hi+1 - lo:=by rw [← hc]; exact cnt_ext _ _ (fun i=>bit_ev lo hi i (by omega)) 64 0
      rw [q2] at q
      rw [q]
      constructor
      · intro h
        exact eq_of_bits hb hev (fun i hi6=>h i (by omega) (by omega))
      · rintro rfl i _ _
        rfl
    unfold finF
    rw [if_pos ((andNot_zero _ _ hb hev).2 hsub)]
    by_cases hb0:b=0
    · rw [if_pos (by rw [hz.2 hb0]; rfl),if_pos hb0]
    · rw [if_neg (by intro e; exact hb0 (hz.1 (by omega))),if_neg hb0]
      cases s
      · rfl
      · rw [if_pos rfl,if_pos rfl]
        by_cases hbe:b=evB lo hi
        · rw [if_pos (by rw [hf.2 hbe]; omega),if_pos hbe]
        · rw [if_neg (by intro e; exact hbe (hf.1 (by omega))),if_neg hbe]
theorem Ref_has_all (b:Int)(s:Bool)(v:Int)(hb:InU b)(K:Nat):complineref18_Has.f (K+70) b s v=some (decide (0≤v) && decide (v < 64) && bitAt b v.toNat):=by
  by_cases h0:v < 0
  · unfold complineref18_Has.f
    rw [if_pos h0,complineref18_Has.j0,if_pos rfl,decide_eq_false (by omega)]
    rfl
  by_cases h1:v > 63
  · unfold complineref18_Has.f
    rw [if_neg h0,decide_eq_true h1,complineref18_Has.j0,if_pos rfl,decide_eq_false (by omega:¬ v < 64)]
    simp
  obtain ⟨n,rfl⟩:∃ n:Nat,v=n:=⟨v.toNat,by omega⟩
  rw [Ref_has b s n hb (by omega) K,Int.toNat_natCast,decide_eq_true (by omega),decide_eq_true (by omega)]
  rfl
def firstN (f:Nat→Bool):Nat→Nat→Option Nat
  | _,0=>none
  | v,d+1=>if f v then some v else firstN f (v+1) d
theorem Ref_first_l (b:Int)(s:Bool)(hb:InU b)(K:Nat):∀ (d v:Nat),v+d=64→complineref18_First.l0 (d+(K+71)) (v:Int) b s=some (match firstN (bitAt b) v d with | some i=>((i:Int),true) | none=>(0,false))
  | 0,v,hv=>by
    rw [show 0+(K+71)=(K+70)+1 by omega,complineref18_First.l0,if_neg (by omega)]
    rfl
  | d+1,v,hv=>by
    have hw:wrap64 ((v:Int)+1)=((v+1:Nat):Int):=by unfold wrap64; omega
    rw [show d+1+(K+71)=(d+(K+71))+1 by omega,complineref18_First.l0,if_pos (by omega),show d+(K+71)=(d+K+1)+70 by omega,Ref_has b s v hb (by omega)]
    simp only [Option.bind_some]
    unfold firstN
    by_cases h:bitAt b v=true
    · rw [if_pos h,if_pos h]
    · rw [if_neg h,if_neg h,hw,show d+K+1+70=d+(K+71) by omega,Ref_first_l b s hb K d (v+1) (by omega)]
theorem first_ntz:∀ (d m n:Nat),n < 2 ^ (m+d)→firstN (fun i=>n.testBit i) m d=if n / 2 ^ m=0 then none else some (m+Fld.ntzN d (n / 2 ^ m))
  | 0,m,n,h=>by rw [if_pos (Nat.div_eq_of_lt (by simpa using h))]; rfl
  | d+1,m,n,h=>by
    have ih:=first_ntz d (m+1) n (by rw [show m+1+d=m+(d+1) by omega]; exact h)
    have hq:n / 2 ^ (m+1)=n / 2 ^ m / 2:=by rw [Nat.pow_succ,Nat.div_div_eq_div_mul]
    have ht:n.testBit m=decide (n / 2 ^ m % 2=1):=Nat.testBit_eq_decide_div_mod_eq
    unfold firstN
    rw [ht,ih,hq]
    generalize n / 2 ^ m=q
    by_cases h1:q % 2=1
    · rw [decide_eq_true h1,if_pos rfl,if_neg (by omega)]
      unfold Fld.ntzN
      rw [if_pos h1]
      rfl
    · rw [decide_eq_false h1,if_neg (by decide)]
      by_cases h2:q=0
      · rw [if_pos (by omega),if_pos h2]
      · rw [if_neg (by omega),if_neg h2]
        show _=some (m+Fld.ntzN (d+1) q)
        rw [Fld.ntzN,if_neg h1]
        congr 1
        omega
theorem ntz_shift:∀ (m f q:Nat),Fld.ntzN (m+f) (q*2 ^ m)=m+Fld.ntzN f q
  | 0,f,q=>by simp
  | m+1,f,q=>by
    rw [show m+1+f=(m+f)+1 by omega,Fld.ntzN]
    have h1:q*2 ^ (m+1)=2*(q*2 ^ m):=by rw [Nat.pow_succ,← Nat.mul_assoc,Nat.mul_comm]
    rw [h1,if_neg (by omega),Nat.mul_div_cancel_left _ (by decide),ntz_shift m f q]
    omega
theorem Ref_first (b:Int)(s:Bool)(v:Int)(hb:InU b)(K:Nat):complineref18_First.f (K+135) b s v=field_First.f b s v:=by
  unfold complineref18_First.f field_First.f
  obtain ⟨m,hm⟩:∃ m:Nat,mx v 0=m:=⟨(mx v 0).toNat,by unfold mx; split <;> omega⟩
  rw [hm]
  obtain ⟨n,rfl,hn⟩ :=nat_of b hb
  by_cases h:(m:Int) > 63
  · rw [if_pos h,show K+135=(K+134)+1 by omega,complineref18_First.l0,if_neg (by omega)]
  · have hw:IntKind.u64.wrap (m:Int)=(m:Int):=by rw [u64w]; omega
    rw [if_neg h,hw,if_pos (by omega),shr_nat n m (by omega),shl_nat (n / 2 ^ m) m (by omega)]
    have hle:n / 2 ^ m*2 ^ m≤n:=Nat.div_mul_le_self _ _
    rw [Nat.mod_eq_of_lt (Nat.lt_of_le_of_lt hle hn)]
    have e:=Ref_first_l (n:Int) s hb (K+m) (64 - m) m (by omega)
    rw [show 64 - m+(K+m+71)=K+135 by omega] at e
    rw [e]
    have q:=first_ntz (64 - m) m n (by rw [show m+(64 - m)=64 by omega]; exact hn)
    have hb':bitAt (n:Int)=fun i=>n.testBit i:=by funext i; unfold bitAt; rw [Int.toNat_natCast]
    rw [hb',q]
    by_cases hz:n / 2 ^ m=0
    · rw [if_pos hz,if_pos (by rw [hz]; simp)]
    · have hp:0 < n / 2 ^ m*2 ^ m:=Nat.mul_pos (Nat.pos_of_ne_zero hz) (Nat.two_pow_pos m)
      rw [if_neg hz,if_neg (by omega)]
      unfold bits_TrailingZeros64.f
      rw [show (2:Nat) ^ 64=18446744073709551616 by decide] at hn
      rw [if_pos ⟨by omega,by omega⟩]
      simp only [Option.bind_some]
      unfold Fld.ntz
      rw [Int.toNat_natCast]
      have:=ntz_shift m (64 - m) (n / 2 ^ m)
      rw [show m+(64 - m)=64 by omega] at this
      rw [this]
theorem Ref_limits (kind:Int):complineref18_limits.f kind=some ((Lex.limits kind).1,top kind,(Lex.limits kind).2.2):=by
  unfold complineref18_limits.f complineref17_Limits.f top Lex.limits
  by_cases h0:kind=0
  · subst h0; rfl
  by_cases h1:kind=1
  · subst h1; rfl
  by_cases h2:kind=2
  · subst h2; rfl
  by_cases h3:kind=3
  · subst h3; rfl
  by_cases h4:kind=4
  · subst h4; rfl
  · simp [h0,h1,h2,h3,h4]
theorem Ref_check_all (b:Int)(s:Bool)(kind:Int)(hb:InU b)(K:Nat):complineref18_Check.f (K+201) b s kind=field_Check.f b s kind:=by
  by_cases hk:(Lex.limits kind).2.2=0
  · rcases kinds kind hk with rfl | rfl | rfl | rfl | rfl
    · exact Ref_check b s 0 0 59 hb rfl rfl rfl (by decide) (by decide) rfl (by decide +kernel) K
    · exact Ref_check b s 1 0 23 hb rfl rfl rfl (by decide) (by decide) rfl (by decide +kernel) K
    · exact Ref_check b s 2 1 31 hb rfl rfl rfl (by decide) (by decide) rfl (by decide +kernel) K
    · exact Ref_check b s 3 1 12 hb rfl rfl rfl (by decide) (by decide) rfl (by decide +kernel) K
    · exact Ref_check b s 4 0 6 hb rfl rfl rfl (by decide) (by decide) rfl (by decide +kernel) K
  · rw [check_bad b s kind hk]
    unfold complineref18_Check.f
    rw [Ref_limits]
    simp only [Option.bind_some]
    rw [if_neg hk]
/-! The document's show, as plain numbers. -/
theorem Shw.rdig1:∀ n:Fin 64,strOfNums [(wrap64 (48+(n.val:Int))) % 256]=(⟨#[(48+n.val).toUInt8]⟩:ByteArray):=by decide +kernel
theorem Shw.rdig2:∀ n:Fin 64,strOfNums [(wrap64 (48+(wrap64 (Int.tdiv (n.val:Int) 10)))) % 256] ++ strOfNums [(wrap64 (48+(Int.tmod (n.val:Int) 10))) % 256]=(⟨#[(48+n.val / 10).toUInt8,(48+n.val % 10).toUInt8]⟩:ByteArray)∧wrap64 (Int.tdiv (n.val:Int) 10) < 10:=by decide +kernel
theorem Shw.rdig3:∀ n:Fin 64,(strOfNums [(wrap64 (48+(wrap64 (Int.tdiv (n.val:Int) 10)))) % 256]).size=1∧(strOfNums [(wrap64 (48+(Int.tmod (n.val:Int) 10))) % 256]).size=1:=by decide +kernel
theorem Shw.rdigits (n:Nat)(h:n < 64)(k:Nat):complineref20_Digits.f (k+2) (n:Int)=some (Shw.dg n):=by
  unfold Shw.dg
  have q1:=Shw.rdig1 ⟨n,h⟩
  have q2:=Shw.rdig2 ⟨n,h⟩
  have q3:=Shw.rdig3 ⟨n,h⟩
  dsimp only at q1 q2 q3
  rw [complineref20_Digits.f]
  by_cases c:n < 10
  · rw [if_pos (by omega),if_pos c,q1]
  · rw [if_neg (by omega),if_neg c,complineref20_Digits.f,if_pos q2.2]
    simp only [Option.bind_some]
    rw [if_pos (by rw [q3.1,q3.2]; decide),q2.1]
/-- A run's text of the document's. -/
def Shw.rtext (a e:Nat):ByteArray:=if e=a then Shw.dg a else if e=a+1 then Shw.dg a ++ (⟨#[44]⟩:ByteArray) ++ Shw.dg e else Shw.dg a ++ (⟨#[45]⟩:ByteArray) ++ Shw.dg e
theorem Shw.rrun (a e:Nat)(h1:a < 64)(h2:e < 64)(k:Nat):complineref20_run.f (k+2) (a:Int) (e:Int)=some (Shw.rtext a e):=by
  have hw:wrap64 ((a:Int)+1)=(a:Int)+1:=by unfold wrap64; omega
  have d1:=Shw.dg_le a
  have d2:=Shw.dg_le e
  have s1:(⟨#[44]⟩:ByteArray).size=1:=rfl
  have s2:(⟨#[45]⟩:ByteArray).size=1:=rfl
  unfold complineref20_run.f Shw.rtext
  rw [Shw.rdigits a h1 k,Shw.rdigits e h2 k,hw]
  simp only [Option.bind_some]
  by_cases c:e=a
  · rw [if_pos (by omega),if_pos c]
  · rw [if_neg (by omega),if_neg c]
    by_cases c2:e=a+1
    · rw [if_pos (by omega),if_pos c2,if_pos (by omega),if_pos (by rw [ByteArray.size_append,s1]; omega)]
    · rw [if_neg (by omega),if_neg c2,if_pos (by omega),if_pos (by rw [ByteArray.size_append,s2]; omega)]
theorem Shw.rtext_le (a e:Nat):(Shw.rtext a e).size≤5:=by
  have d1:=Shw.dg_le a
  have d2:=Shw.dg_le e
  have s1:(⟨#[44]⟩:ByteArray).size=1:=rfl
  have s2:(⟨#[45]⟩:ByteArray).size=1:=rfl
  unfold Shw.rtext
  split
  · omega
  split <;> simp only [ByteArray.size_append] <;> omega
theorem Shw.app_assoc (a b c:ByteArray):a ++ b ++ c=a ++ (b ++ c):=by
  apply B_ext
  simp only [ByteArray.data_append,Array.toList_append,List.append_assoc]
theorem Shw.item_add (acc:ByteArray)(a e:Nat):Shw.item acc a e=Shw.add acc (Shw.rtext a e):=by
  unfold Shw.item Shw.rtext
  by_cases c:e=a
  · rw [if_pos c,if_pos c]
  · rw [if_neg c,if_neg c]
    by_cases c2:e=a+1
    · rw [if_pos c2,if_pos c2]
      have h:=Shw.add_ne acc (Shw.dg a) (Shw.dg_ne a)
      rw [show Shw.add (Shw.add acc (Shw.dg a)) (Shw.dg e)=Shw.add acc (Shw.dg a) ++ (⟨#[44]⟩:ByteArray) ++ Shw.dg e from if_neg h]
      unfold Shw.add
      split
      · rfl
      · simp only [Shw.app_assoc]
    · rw [if_neg c2,if_neg c2]
theorem Shw.rend (b:Int)(s:Bool)(hb:InU b)(a:Nat)(ha:a < 64)(hp:bitAt b a=true)(K:Nat):complineref20_end.f (K+200) b s (a:Int)=some ((Shw.stop (bitAt b) (64 - a) a - 1:Nat):Int):=by
  have h64:bitAt b 64=false:=by
    unfold bitAt
    have h1:b.toNat < 2 ^ 64:=by
      have:=hb.2
      have e2:(2:Nat) ^ 64=18446744073709551616:=by decide
      omega
    exact Nat.testBit_lt_two_pow h1
  unfold complineref20_end.f
  have key:=Shw.loop_end (bitAt b) h64 (fun k v=>complineref20_end.l0 (k+70) v b s) ?_ ?_ (63 - a) a (K+200 - 70 - (63 - a+1)) (by omega) hp
  · rw [show 63 - a+1+(K+200 - 70 - (63 - a+1))+70=K+200 by omega] at key
    exact key
  · intro k v hv h1
    show complineref20_end.l0 (k+1+70) (v:Int) b s=complineref20_end.l0 (k+70) ((v+1:Nat):Int) b s
    rw [show k+1+70=k+70+1 by omega]
    have hw:wrap64 ((v:Int)+1)=((v+1:Nat):Int):=by unfold wrap64; omega
    have hh:complineref18_Has.f (k+70) b s ((v+1:Nat):Int)=some true:=by
      rw [Ref_has_all b s ((v+1:Nat):Int) hb k,Int.toNat_natCast,h1]
      have:v+1 < 64:=by
        rcases Nat.lt_or_ge (v+1) 64 with q | q
        · exact q
        · rw [show v+1=64 by omega,h64] at h1; cases h1
      rw [decide_eq_true (by omega),decide_eq_true (by omega)]; rfl
    generalize k+70=m at hh ⊢
    rw [complineref20_end.l0,hw,hh]
    rw [Option.bind_some,if_pos rfl]
  · intro k v hv h1
    show complineref20_end.l0 (k+1+70) (v:Int) b s=some (v:Int)
    rw [show k+1+70=k+70+1 by omega]
    have hw:wrap64 ((v:Int)+1)=((v+1:Nat):Int):=by unfold wrap64; omega
    have hh:complineref18_Has.f (k+70) b s ((v+1:Nat):Int)=some false:=by
      rw [Ref_has_all b s ((v+1:Nat):Int) hb k,Int.toNat_natCast,h1]
      simp
    generalize k+70=m at hh ⊢
    rw [complineref20_end.l0,hw,hh]
    rw [Option.bind_some,if_neg (by decide)]
theorem Shw.loop_runs2 (p : Nat → Bool) (M : Nat) (L : Nat → ByteArray → Int → Bool → Option (ByteArray × Int)) (hs : ∀ k acc, L (k + 1) acc 0 false = some (acc, 0))
    (hn:∀ k acc (a:Nat),acc.size≤M→a < 64→p a=true→L (k+1) acc (a:Int) true=L k (Shw.item acc a (Shw.stop p (64 - a) a - 1)) (Shw.nx p (Shw.stop p (64 - a) a)).1 (Shw.nx p (Shw.stop p (64 - a) a)).2) :
    ∀ (f v K:Nat) (acc:ByteArray),acc.size+6*f≤M→64≤v+f→L (f+1+K) acc (Shw.nx p v).1 (Shw.nx p v).2=some (Shw.fold (Shw.runs p f v) acc,0):=by
  intro f
  induction f with
  | zero=>
    intro v K acc _ h
    have e:Shw.nx p v=(0,false):=by unfold Shw.nx; rw [show 64 - v=0 by omega]; rfl
    rw [e,show 0+1+K=K+1 by omega,hs]
    rfl
  | succ f ih=>
    intro v K acc hM h
    rw [show f+1+1+K=(f+1+K)+1 by omega,Shw.runs]
    cases hf:Shw.fst p (64 - v) v with
    | none=>
      have e:Shw.nx p v=(0,false):=by unfold Shw.nx; rw [hf]
      rw [e,hs]
      rfl
    | some a=>
      obtain ⟨h1,h2,h3,_⟩ :=Shw.fst_some hf
      have e:Shw.nx p v=((a:Int),true):=by unfold Shw.nx; rw [hf]
      have g:=Shw.stop_gt (p:=p) (show a < 64 by omega) h3
      have hit:=Shw.item_le acc a (Shw.stop p (64 - a) a - 1)
      rw [e,hn _ _ a (by omega) (by omega) h3,ih _ K _ (by omega) (by omega)]
      rfl
theorem Shw.rfirst (b:Int)(s:Bool)(hb:InU b)(n K:Nat):complineref18_First.f (K+135) b s (n:Int)=some ((Shw.nx (bitAt b) n).1,(Shw.nx (bitAt b) n).2):=by
  rw [Ref_first b s (n:Int) hb K]
  exact Shw.first_nx b s hb n
theorem Shw.rloop (b:Int)(s:Bool)(hb:InU b)(K:Nat):complineref20_Field.l0 (K+400) ⟨#[]⟩ (Shw.nx (bitAt b) 0).1 (Shw.nx (bitAt b) 0).2 b s=some (Shw.text (bitAt b),0):=by
  have key:=Shw.loop_runs2 (bitAt b) 1000 (fun k acc v ok=>complineref20_Field.l0 (k+300) acc v ok b s) ?_ ?_ 64 0 (K+400 - 300 - 65) ⟨#[]⟩ (by decide) (by decide)
  · rw [show 64+1+(K+400 - 300 - 65)+300=K+400 by omega] at key
    exact key
  · intro k acc
    show complineref20_Field.l0 (k+1+300) acc 0 false b s=_
    rw [show k+1+300=k+300+1 by omega]
    generalize k+300=m
    rw [complineref20_Field.l0,if_neg (by decide)]
  · intro k acc a hM ha hp
    show complineref20_Field.l0 (k+1+300) acc (a:Int) true b s=complineref20_Field.l0 (k+300) _ _ _ b s
    rw [show k+1+300=k+300+1 by omega]
    have g:=Shw.stop_gt (p:=bitAt b) ha hp
    have g2:=(Shw.stop_spec (bitAt b) (64 - a) a).2.1
    have he:=Shw.rend b s hb a ha hp (k+100)
    have hr:=Shw.rrun a (Shw.stop (bitAt b) (64 - a) a - 1) ha (by omega) (k+298)
    have hf:=Shw.rfirst b s hb (Shw.stop (bitAt b) (64 - a) a) (k+165)
    have hw:wrap64 (((Shw.stop (bitAt b) (64 - a) a - 1:Nat):Int)+1)=((Shw.stop (bitAt b) (64 - a) a:Nat):Int):=by unfold wrap64; omega
    have hsz:=Shw.rtext_le a (Shw.stop (bitAt b) (64 - a) a - 1)
    have s1:(⟨#[44]⟩:ByteArray).size=1:=rfl
    rw [show k+100+200=k+300 by omega] at he
    rw [show k+298+2=k+300 by omega] at hr
    rw [show k+165+135=k+300 by omega] at hf
    rw [Shw.item_add]
    generalize k+300=m at he hr hf ⊢
    rw [complineref20_Field.l0,if_pos rfl,he]
    simp only [Option.bind_some]
    rw [hr]
    simp only [Option.bind_some]
    rw [hw,hf]
    simp only [Option.bind_some]
    unfold Shw.add
    by_cases c:acc.size=0
    · have c2 : acc.toList = [] := by
        rw [toList_of]
        exact List.length_eq_zero_iff.1 (by rw [Array.length_toList]; exact c)
      have c3:acc=⟨#[]⟩ :=B_ext (by rw [← toList_of,c2])
      rw [if_pos c2,if_pos (by omega),if_pos c]
      subst c3
      congr 1
    · have c2 : ¬ acc.toList = [] := by
        rw [toList_of]
        intro e
        exact c (by have:=congrArg List.length e; rw [Array.length_toList] at this; exact this)
      rw [if_neg c2,if_pos (by omega),if_pos (by rw [ByteArray.size_append,s1]; omega),if_neg c]
/-- The document's field: as the program's. -/
theorem Shw.rfield (b:Int)(s:Bool)(kind:Int)(hb:InU b)(K:Nat):complineref20_Field.f (K+400) b s kind=show_Field.f b s kind:=by
  show _=Shw.fieldF b s kind
  unfold complineref20_Field.f Shw.fieldF
  rw [if_pos (show 0≤b∧b < 18446744073709551616 from hb),show K+400=K+199+201 by omega,Ref_check_all b s kind hb (K+199),show K+199+201=K+400 by omega]
  obtain ⟨e,he⟩ :=Shw.check_some b s kind
  rw [he]
  simp only [Option.bind_some]
  by_cases c:e=0
  · rw [if_pos c,if_neg (show ¬ (e≠0) from fun h=>h c)]
    unfold Shw.ftext
    by_cases hs:s=true
    · rw [if_pos hs,if_pos hs]
    · rw [if_neg hs,if_neg hs,show K+400=K+265+135 by omega]
      have hf:=Shw.rfirst b s hb 0 (K+265)
      rw [show (((0:Nat):Int))=0 from rfl] at hf
      rw [hf]
      simp only [Option.bind_some]
      rw [show K+265+135=K+400 by omega,Shw.rloop b s hb K]
      rfl
  · rw [if_neg c,if_pos c]
end Go.Proofs.YtcmmmlenaahaeaaGreatDoor.PShw
