/- The document's rearm, as plain numbers. No condition. -/
import Derived.Test.YtepflnfnkfkldaaDoorPReax15
import Derived.Test.YtepflnfnkfkldaaDoorPReax17
import Derived.Test.YtepflnfnkfkldaaDoorReaLib
namespace Go.Proofs.YtepflnfnkfkldaaDoor.PRea
open Go.RowKit Go.Proofs.YtepflnfnkfkldaaDoorW.PrintWords Go.Proofs.YtepflnfnkfkldaaDoorW.PrintLast Go.Proofs.YtepflnfnkfkldaaDoorW.PrintMore
set_option linter.unusedVariables false
set_option linter.unusedSimpArgs false
/-! The day behind and the day ahead. -/
theorem Civ.next_day {d : Int} (h0 : 0 ≤ d) (h : d < 376199) :
    Civ.date (d+1)=if Civ.dy d < Civ.len (Civ.yr d) (1+Civ.mi d) then (Civ.yr d,1+(Civ.mi d:Int),Civ.dy d+1,0) else if 1+(Civ.mi d:Int) < 12 then (Civ.yr d,1+(Civ.mi d:Int)+1,1,0) else (Civ.yr d+1,1,1,0):=by
  obtain ⟨ok,hn⟩ :=Civ.date_ok (d:=d) h0 (by omega)
  obtain ⟨h1,h2,h3,h4,h5,h6⟩ :=ok
  have hs:=Civ.cum_len (Civ.yr d) (Civ.mi d)
  rw [show ((Civ.mi d:Int)+1)=1+Civ.mi d by omega] at hs
  have e1:(1+(Civ.mi d:Int) - 1).toNat=Civ.mi d:=by omega
  unfold Civ.num at hn
  rw [e1] at hn
  split
  · rename_i hl
    rw [← Civ.date_num (y:=Civ.yr d) (m:=1+Civ.mi d) (d:=Civ.dy d+1) ⟨h1,h2,h3,h4,by omega,by omega⟩]
    congr 1
    unfold Civ.num
    rw [e1]
    omega
  · rename_i hl
    split
    · rename_i hm
      have hp:=Civ.len_ge (y:=Civ.yr d) (m:=1+(Civ.mi d:Int)+1) (by omega) (by omega)
      rw [← Civ.date_num (y:=Civ.yr d) (m:=1+Civ.mi d+1) (d:=1) ⟨h1,h2,by omega,by omega,by omega,by omega⟩]
      congr 1
      unfold Civ.num
      rw [show (1+(Civ.mi d:Int)+1 - 1).toNat=Civ.mi d+1 by omega,hs]
      omega
    · rename_i hm
      have hp:=Civ.len_ge (y:=Civ.yr d+1) (m:=1) (by omega) (by omega)
      have h12:=Civ.cum12 (Civ.yr d)
      have e12:Civ.mi d=11:=by omega
      rw [e12] at hs hn hl h6
      have hy:Civ.yr d≤2998:=by
        by_cases c:Civ.yr d=2999
        · have:Civ.dby (Civ.yr d+1)=376200:=by rw [c]; decide
          rw [show (11+1:Nat)=12 by rfl] at hs
          omega
        · omega
      rw [← Civ.date_num (y:=Civ.yr d+1) (m:=1) (d:=1) ⟨by omega,by omega,by omega,by omega,by omega,by omega⟩]
      congr 1
      unfold Civ.num
      rw [show ((1:Int) - 1).toNat=0 by decide]
      simp only [Civ.cum]
      rw [show (11+1:Nat)=12 by rfl] at hs
      omega
/-! complineref18.Has, Check and All, over bits. -/
theorem Ref_half (x:Int)(h:InU x):IntKind.u64.wrap (Int.tdiv x 2)=((x.toNat / 2:Nat):Int):=by
  obtain ⟨n,rfl,hn⟩ :=nat_of x h
  rw [u64w,Int.toNat_natCast]
  have:Int.tdiv (n:Int) 2=((n / 2:Nat):Int):=by rw [Int.tdiv_eq_ediv_of_nonneg (by omega)]; omega
  rw [this]
  rw [show (2:Nat) ^ 64=18446744073709551616 by decide] at hn
  omega
theorem Ref_has_l:∀ (d i:Nat)(v:Int)(x:Int)(K:Nat),InU x→(i:Int)+d=v→v≤64→complineref18_Has.l0 (d+1+K) v x (i:Int)=some (bitAt x d)
  | 0,i,v,x,K,hx,hv,h64=>by
    rw [show 0+1+K=K+1 by omega,complineref18_Has.l0,if_neg (by omega)]
    obtain ⟨n,rfl,hn⟩ :=nat_of x hx
    congr 1
    unfold bitAt
    rw [Int.toNat_natCast,Nat.testBit_zero]
    rw [Int.tmod_eq_emod_of_nonneg (by omega)]
    rw [Bool.eq_iff_iff]
    simp only [beq_iff_eq,decide_eq_true_eq]
    omega
  | d+1,i,v,x,K,hx,hv,h64=>by
    have hw:wrap64 ((i:Int)+1)=((i+1:Nat):Int):=by unfold wrap64; omega
    rw [show d+1+1+K=(d+1+K)+1 by omega,complineref18_Has.l0,if_pos (by omega),Ref_half x hx,hw]
    have hx2:InU ((x.toNat / 2:Nat):Int):=by unfold InU at hx ⊢; omega
    rw [Ref_has_l d (i+1) v _ K hx2 (by omega) h64]
    unfold bitAt
    rw [Int.toNat_natCast,Nat.testBit_succ]
theorem Ref_has (b:Int)(s:Bool)(v:Nat)(hb:InU b)(hv:v < 64)(K:Nat):complineref18_Has.f (K+70) b s (v:Int)=some (bitAt b v):=by
  unfold complineref18_Has.f
  rw [if_neg (by omega),decide_eq_false (by omega),complineref18_Has.j0,if_neg (by decide)]
  rw [show K+69=v+1+(K+68 - v) by omega]
  exact Ref_has_l v 0 v b _ hb (by omega) (by omega)
/-- How many of the bits from v on, d of them, are set; and whether one lies out. -/
def cntF (f:Nat→Bool):Nat→Nat→Nat
  | _,0=>0
  | v,d+1=>(if f v then 1 else 0)+cntF f (v+1) d
def outF (f:Nat→Bool)(lo hi:Nat):Nat→Nat→Bool
  | _,0=>false
  | v,d+1=>(f v && (decide (v < lo) || decide (hi < v))) || outF f lo hi (v+1) d
def finF (lo hi:Nat)(s:Bool)(m:Nat):Option Int:=if (m:Int)=0 then some 2 else if s=true then (if (m:Int)=(hi:Int) - lo+1 then some 0 else some 2) else some 0
theorem Ref_check_l (b : Int) (s : Bool) (lo hi : Nat) (hb : InU b) (hh : lo ≤ hi) (h59 : hi ≤ 59) : ∀ (d v n K : Nat), v + d = 64 → n ≤ v →
    complineref18_Check.l0 (2*d+1+(K+72)) (lo:Int) (hi:Int) (n:Int) (v:Int) b s=if outF (bitAt b) lo hi v d=true then some 2 else finF lo hi s (n+cntF (bitAt b) v d)
  | 0,v,n,K,hv,hn=>by
    have hw:wrap64 (wrap64 ((hi:Int) - lo)+1)=(hi:Int) - lo+1:=by unfold wrap64; omega
    rw [show 2*0+1+(K+72)=(K+72)+1 by omega,complineref18_Check.l0,if_neg (by omega),hw]
    rfl
  | d+1,v,n,K,hv,hn=>by
    have hw:wrap64 ((v:Int)+1)=((v+1:Nat):Int):=by unfold wrap64; omega
    have hwn:wrap64 ((n:Int)+1)=((n+1:Nat):Int):=by unfold wrap64; omega
    rw [show 2*(d+1)+1+(K+72)=(2*d+1+(K+72)+1)+1 by omega,complineref18_Check.l0,if_pos (by omega)]
    rw [show 2*d+1+(K+72)+1=(2*d+K+4)+70 by omega,Ref_has b s v hb (by omega)]
    simp only [Option.bind_some]
    rw [show 2*d+K+4+70=(2*d+1+(K+72))+1 by omega]
    unfold outF cntF
    cases hbv:bitAt b v
    · rw [if_neg (by decide),complineref18_Check.j1,if_neg (by decide),if_neg (by decide),hw,Ref_check_l b s lo hi hb hh h59 d (v+1) n K (by omega) (by omega)]
      simp
    · rw [if_pos rfl]
      by_cases h1:(v:Int) < lo
      · rw [if_pos h1,complineref18_Check.j1,if_pos rfl]
        rw [decide_eq_true (by omega:v < lo)]
        rfl
      · rw [if_neg h1,complineref18_Check.j1]
        by_cases h2:(v:Int) > hi
        · rw [decide_eq_true h2,if_pos rfl,decide_eq_true (by omega:hi < v)]
          simp
        · rw [decide_eq_false h2,if_neg (by decide),if_pos rfl,hw,hwn,Ref_check_l b s lo hi hb hh h59 d (v+1) (n+1) K (by omega) (by omega)]
          rw [decide_eq_false (by omega:¬ v < lo),decide_eq_false (by omega:¬ hi < v)]
          simp [Nat.add_assoc]
theorem out_iff (f:Nat→Bool)(lo hi:Nat):∀ (d v:Nat),outF f lo hi v d=false↔∀ i,v≤i→i < v+d→f i=true→lo≤i∧i≤hi
  | 0,v=>⟨fun _ i h1 h2=>by omega,fun _=>rfl⟩
  | d+1,v=>by
    unfold outF
    rw [Bool.or_eq_false_iff,out_iff f lo hi d (v+1)]
    constructor
    · rintro ⟨h1,h2⟩ i h3 h4 h5
      by_cases hi':i=v
      · subst hi'
        rw [h5] at h1
        simp at h1
        omega
      · exact h2 i (by omega) (by omega) h5
    · intro h
      refine ⟨?_,fun i h1 h2 h3=>h i (by omega) (by omega) h3⟩
      cases hf:f v
      · rfl
      · have:=h v (by omega) (by omega) hf
        simp; omega
theorem cnt_zero (f:Nat→Bool):∀ (d v:Nat),cntF f v d=0↔∀ i,v≤i→i < v+d→f i=false
  | 0,v=>⟨fun _ i h1 h2=>by omega,fun _=>rfl⟩
  | d+1,v=>by
    unfold cntF
    constructor
    · intro h i h1 h2
      by_cases hi:i=v
      · subst hi; cases hf:f i; rfl; rw [hf] at h; simp at h
      · exact (cnt_zero f d (v+1)).1 (by omega) i (by omega) (by omega)
    · intro h
      rw [h v (by omega) (by omega),(cnt_zero f d (v+1)).2 (fun i h1 h2=>h i (by omega) (by omega))]
      rfl
theorem cnt_le (f g:Nat→Bool):∀ (d v:Nat),(∀ i,v≤i→i < v+d→f i=true→g i=true)→cntF f v d≤cntF g v d∧(cntF f v d=cntF g v d↔∀ i,v≤i→i < v+d→f i=g i)
  | 0,v,_=>⟨Nat.le_refl _,fun _ i h1 h2=>by omega,fun _=>rfl⟩
  | d+1,v,h=>by
    obtain ⟨h1,h2⟩ :=cnt_le f g d (v+1) (fun i a b c=>h i (by omega) (by omega) c)
    unfold cntF
    have h3:=h v (by omega) (by omega)
    constructor
    · cases hf:f v
      · simp; omega
      · rw [h3 hf]; simp; exact h1
    · constructor
      · intro he i a b
        by_cases hi:i=v
        · subst hi
          cases hf:f i
          · cases hg:g i
            · rfl
            · rw [hf,hg] at he; simp at he; omega
          · rw [h3 hf]
        · refine h2.1 ?_ i (by omega) (by omega)
          cases hf:f v
          · rw [hf] at he
            simp at he
            cases hg:g v
            · rw [hg] at he; simpa using he
            · rw [hg] at he; simp at he; omega
          · rw [hf,h3 hf] at he; simpa using he
      · intro he
        rw [he v (by omega) (by omega),h2.2 (fun i a b=>he i (by omega) (by omega))]
theorem cnt_ext (f g:Nat→Bool)(h:∀ i,f i=g i):∀ (d v:Nat),cntF f v d=cntF g v d
  | 0,_=>rfl
  | d+1,v=>by unfold cntF; rw [h v,cnt_ext f g h d (v+1)]
theorem Ref_check (b : Int) (s : Bool) (kind : Int) (lo hi : Nat) (hb : InU b) (hk : (Lex.limits kind).2.2 = 0) (hlo : (Lex.limits kind).1 = lo) (hhi : top kind = hi) (h1 : lo ≤ hi) (h2 : hi ≤ 59)
    (hl:complineref18_limits.f kind=some ((lo:Int),(hi:Int),0)) (hc:cntF (fun i=>decide (lo≤i) && decide (i≤hi)) 0 64=hi+1 - lo) (K:Nat) :
    complineref18_Check.f (K+201) b s kind=field_Check.f b s kind:=by
  rw [check_f b s kind lo hi hk hlo hhi h1 h2]
  unfold complineref18_Check.f
  rw [hl]
  simp only [Option.bind_some,if_true]
  have e:=Ref_check_l b s lo hi hb h1 h2 64 0 0 K (by omega) (by omega)
  rw [show 2*64+1+(K+72)=K+201 by omega] at e
  refine (show complineref18_Check.l0 (K+201) (lo:Int) (hi:Int) 0 0 b s=_ from e).trans ?_
  rw [Nat.zero_add]
  have hev:=ev_in lo hi (by omega)
  by_cases ho:outF (bitAt b) lo hi 0 64=true
  · rw [if_pos ho]
    by_cases hz:b=0
    · rw [if_pos hz]
    · rw [if_neg hz,if_neg]
      intro ha
      rw [andNot_zero _ _ hb hev] at ha
      have:outF (bitAt b) lo hi 0 64=false:=(out_iff _ _ _ _ _).2 (fun i _ hi6 hbi=>by
        have:=ha i (by omega) hbi
        rw [bit_ev lo hi i (by omega)] at this
        simp at this
        exact this)
      rw [this] at ho
      cases ho
  · rw [if_neg ho]
    have ho':outF (bitAt b) lo hi 0 64=false:=by simpa using ho
    have hin:=(out_iff _ _ _ _ _).1 ho'
    have hsub:∀ i,i < 64→bitAt b i=true→bitAt (evB lo hi) i=true:=by
      intro i hi6 hbi
      obtain ⟨q1,q2⟩ :=hin i (by omega) (by omega) hbi
      rw [bit_ev lo hi i (by omega),decide_eq_true q1,decide_eq_true q2]
      rfl
    have hz:cntF (bitAt b) 0 64=0↔b=0:=by
      rw [cnt_zero]
      constructor
      · intro h
        exact eq_of_bits hb (by unfold InU; omega) (fun i hi6=>by rw [h i (by omega) (by omega),bit_zero])
      · rintro rfl i _ _
        exact bit_zero i
    have hf:cntF (bitAt b) 0 64=hi+1 - lo↔b=evB lo hi:=by
      have q:=(cnt_le (bitAt b) (bitAt (evB lo hi)) 64 0 (fun i _ h4 h5=>hsub i (by omega) h5)).2
      have q2:cntF (bitAt (evB lo hi)) 0 64=hi+1 - lo:=by rw [← hc]; exact cnt_ext _ _ (fun i=>bit_ev lo hi i (by omega)) 64 0
      rw [q2] at q
      rw [q]
      constructor
      · intro h
        exact eq_of_bits hb hev (fun i hi6=>h i (by omega) (by omega))
      · rintro rfl i _ _
        rfl
    unfold finF
    rw [if_pos ((andNot_zero _ _ hb hev).2 hsub)]
    by_cases hb0:b=0
    · rw [if_pos (by rw [hz.2 hb0]; rfl),if_pos hb0]
    · rw [if_neg (by intro e; exact hb0 (hz.1 (by omega))),if_neg hb0]
      cases s
      · rfl
      · rw [if_pos rfl,if_pos rfl]
        by_cases hbe:b=evB lo hi
        · rw [if_pos (by rw [hf.2 hbe]; omega),if_pos hbe]
        · rw [if_neg (by intro e; exact hbe (hf.1 (by omega))),if_neg hbe]
theorem Ref_check_k (b:Int)(s:Bool)(i:Nat)(hi:i < 5)(hb:InU b)(K:Nat):complineref18_Check.f (K+201) b s (i:Int)=field_Check.f b s (i:Int):=by
  rcases (by omega:i=0∨i=1∨i=2∨i=3∨i=4) with rfl | rfl | rfl | rfl | rfl
  · exact Ref_check b s 0 0 59 hb rfl rfl rfl (by decide) (by decide) rfl (by decide +kernel) K
  · exact Ref_check b s 1 0 23 hb rfl rfl rfl (by decide) (by decide) rfl (by decide +kernel) K
  · exact Ref_check b s 2 1 31 hb rfl rfl rfl (by decide) (by decide) rfl (by decide +kernel) K
  · exact Ref_check b s 3 1 12 hb rfl rfl rfl (by decide) (by decide) rfl (by decide +kernel) K
  · exact Ref_check b s 4 0 6 hb rfl rfl rfl (by decide) (by decide) rfl (by decide +kernel) K
theorem SC_step (k i j : Nat) (hj : j = i + 1) (x : List S24) (e : Int) (hi : i < 5) (hl : x.length = 5) (hq : complineref18_Check.f k (rd_T24 x (i : Int)).f0 (rd_T24 x (i : Int)).f1 (i : Int) = some e) :
    complineref19_Check.l0 (k+1) x (i:Int)=if e=0 then complineref19_Check.l0 k x (j:Int) else some ((i:Int)+1,e):=by
  subst hj
  have hw:wrap64 ((i:Int)+1)=(i:Int)+1:=by unfold wrap64; omega
  rw [complineref19_Check.l0,if_pos (by omega),if_pos (by omega),if_pos (by omega),hq]
  simp only [Option.bind_some]
  rw [hw]
  rfl
theorem SC_ref (a0:Int)(a1:Bool)(a2:Int)(a3:Bool)(a4:Int)(a5:Bool)(a6:Int)(a7:Bool)(a8:Int)(a9:Bool)(h0:InU a0)(h2:InU a2)(h4:InU a4)(h6:InU a6)(h8:InU a8):∃ n e,spec_Check.f a0 a1 a2 a3 a4 a5 a6 a7 a8 a9=some (n,e)∧complineref19_Check.f 500 a0 a1 a2 a3 a4 a5 a6 a7 a8 a9=some (n,e):=by
  unfold complineref19_Check.f complineref19_Fields.f spec_Check.f
  simp only [Option.bind_some]
  rw [show complineref19_Check.l0 500 ([(⟨a0,a1⟩:S24),(⟨a2,a3⟩:S24),(⟨a4,a5⟩:S24),(⟨a6,a7⟩:S24),(⟨a8,a9⟩:S24)]:List S24) 0=complineref19_Check.l0 500 ([(⟨a0,a1⟩:S24),(⟨a2,a3⟩:S24),(⟨a4,a5⟩:S24),(⟨a6,a7⟩:S24),(⟨a8,a9⟩:S24)]:List S24) ((0:Nat):Int) from rfl]
  obtain ⟨e0,q0⟩ :=chk_tot a0 a1 0 (by omega)
  have r0:complineref18_Check.f 499 (rd_T24 ([(⟨a0,a1⟩:S24),(⟨a2,a3⟩:S24),(⟨a4,a5⟩:S24),(⟨a6,a7⟩:S24),(⟨a8,a9⟩:S24)]:List S24) ((0:Nat):Int)).f0 (rd_T24 ([(⟨a0,a1⟩:S24),(⟨a2,a3⟩:S24),(⟨a4,a5⟩:S24),(⟨a6,a7⟩:S24),(⟨a8,a9⟩:S24)]:List S24) ((0:Nat):Int)).f1 ((0:Nat):Int)=some e0:=(Ref_check_k a0 a1 0 (by omega) h0 298).trans q0
  rw [SC_step 499 0 1 rfl _ e0 (by omega) rfl r0,show field_Check.f a0 a1 0=_ from q0]
  simp only [Option.bind_some]
  by_cases c0:e0≠0
  · rw [if_pos c0,if_neg c0]; exact ⟨_,_,rfl,rfl⟩
  rw [if_neg c0,if_pos (by simpa using c0)]
  obtain ⟨e1,q1⟩ :=chk_tot a2 a3 1 (by omega)
  have r1:complineref18_Check.f 498 (rd_T24 ([(⟨a0,a1⟩:S24),(⟨a2,a3⟩:S24),(⟨a4,a5⟩:S24),(⟨a6,a7⟩:S24),(⟨a8,a9⟩:S24)]:List S24) ((1:Nat):Int)).f0 (rd_T24 ([(⟨a0,a1⟩:S24),(⟨a2,a3⟩:S24),(⟨a4,a5⟩:S24),(⟨a6,a7⟩:S24),(⟨a8,a9⟩:S24)]:List S24) ((1:Nat):Int)).f1 ((1:Nat):Int)=some e1:=(Ref_check_k a2 a3 1 (by omega) h2 297).trans q1
  rw [SC_step 498 1 2 rfl _ e1 (by omega) rfl r1,show field_Check.f a2 a3 1=_ from q1]
  simp only [Option.bind_some]
  by_cases c1:e1≠0
  · rw [if_pos c1,if_neg c1]; exact ⟨_,_,rfl,rfl⟩
  rw [if_neg c1,if_pos (by simpa using c1)]
  obtain ⟨e2,q2⟩ :=chk_tot a4 a5 2 (by omega)
  have r2:complineref18_Check.f 497 (rd_T24 ([(⟨a0,a1⟩:S24),(⟨a2,a3⟩:S24),(⟨a4,a5⟩:S24),(⟨a6,a7⟩:S24),(⟨a8,a9⟩:S24)]:List S24) ((2:Nat):Int)).f0 (rd_T24 ([(⟨a0,a1⟩:S24),(⟨a2,a3⟩:S24),(⟨a4,a5⟩:S24),(⟨a6,a7⟩:S24),(⟨a8,a9⟩:S24)]:List S24) ((2:Nat):Int)).f1 ((2:Nat):Int)=some e2:=(Ref_check_k a4 a5 2 (by omega) h4 296).trans q2
  rw [SC_step 497 2 3 rfl _ e2 (by omega) rfl r2,show field_Check.f a4 a5 2=_ from q2]
  simp only [Option.bind_some]
  by_cases c2:e2≠0
  · rw [if_pos c2,if_neg c2]; exact ⟨_,_,rfl,rfl⟩
  rw [if_neg c2,if_pos (by simpa using c2)]
  obtain ⟨e3,q3⟩ :=chk_tot a6 a7 3 (by omega)
  have r3:complineref18_Check.f 496 (rd_T24 ([(⟨a0,a1⟩:S24),(⟨a2,a3⟩:S24),(⟨a4,a5⟩:S24),(⟨a6,a7⟩:S24),(⟨a8,a9⟩:S24)]:List S24) ((3:Nat):Int)).f0 (rd_T24 ([(⟨a0,a1⟩:S24),(⟨a2,a3⟩:S24),(⟨a4,a5⟩:S24),(⟨a6,a7⟩:S24),(⟨a8,a9⟩:S24)]:List S24) ((3:Nat):Int)).f1 ((3:Nat):Int)=some e3:=(Ref_check_k a6 a7 3 (by omega) h6 295).trans q3
  rw [SC_step 496 3 4 rfl _ e3 (by omega) rfl r3,show field_Check.f a6 a7 3=_ from q3]
  simp only [Option.bind_some]
  by_cases c3:e3≠0
  · rw [if_pos c3,if_neg c3]; exact ⟨_,_,rfl,rfl⟩
  rw [if_neg c3,if_pos (by simpa using c3)]
  obtain ⟨e4,q4⟩ :=chk_tot a8 a9 4 (by omega)
  have r4:complineref18_Check.f 495 (rd_T24 ([(⟨a0,a1⟩:S24),(⟨a2,a3⟩:S24),(⟨a4,a5⟩:S24),(⟨a6,a7⟩:S24),(⟨a8,a9⟩:S24)]:List S24) ((4:Nat):Int)).f0 (rd_T24 ([(⟨a0,a1⟩:S24),(⟨a2,a3⟩:S24),(⟨a4,a5⟩:S24),(⟨a6,a7⟩:S24),(⟨a8,a9⟩:S24)]:List S24) ((4:Nat):Int)).f1 ((4:Nat):Int)=some e4:=(Ref_check_k a8 a9 4 (by omega) h8 294).trans q4
  rw [SC_step 495 4 5 rfl _ e4 (by omega) rfl r4,show field_Check.f a8 a9 4=_ from q4]
  simp only [Option.bind_some]
  by_cases c4:e4≠0
  · rw [if_pos c4,if_neg c4]; exact ⟨_,_,rfl,rfl⟩
  rw [if_neg c4,if_pos (by simpa using c4)]
  rw [complineref19_Check.l0,if_neg (by omega)]
  exact ⟨_,_,rfl,rfl⟩
theorem Ref_has_all (b:Int)(s:Bool)(v:Int)(hb:InU b)(K:Nat):complineref18_Has.f (K+70) b s v=some (decide (0≤v) && decide (v < 64) && bitAt b v.toNat):=by
  by_cases h0:v < 0
  · unfold complineref18_Has.f
    rw [if_pos h0,complineref18_Has.j0,if_pos rfl,decide_eq_false (by omega)]
    rfl
  by_cases h1:v > 63
  · unfold complineref18_Has.f
    rw [if_neg h0,decide_eq_true h1,complineref18_Has.j0,if_pos rfl,decide_eq_false (by omega:¬ v < 64)]
    simp
  obtain ⟨n,rfl⟩:∃ n:Nat,v=n:=⟨v.toNat,by omega⟩
  rw [Ref_has b s n hb (by omega) K,Int.toNat_natCast,decide_eq_true (by omega),decide_eq_true (by omega)]
  rfl
/-! The document's dates. -/
theorem Civ.rleap_f (y:Int):complineref16_Leap.f y=some (Civ.leap y):=by
  unfold complineref16_Leap.f Civ.leap
  have e:(Int.tmod y 100 != 0)=decide (¬ y % 100=0):=by rw [Bool.eq_iff_iff]; simp [Civ.tm]
  simp only [Civ.tm,e]
  by_cases h1:y % 400=0
  · have h4:y % 4=0:=by omega
    simp [h1,h4]
  · by_cases h2:y % 4=0 <;> simp [h1,h2]
theorem Civ.rlen_f (y m:Int)(k:Nat)(hk:1≤k):complineref16_Length.f k y m=some (Civ.len y m):=by
  obtain ⟨k,rfl⟩:∃ j,k=j+1:=⟨k - 1,by omega⟩
  unfold complineref16_Length.f Civ.len
  simp only [complineref16_Length.j0,Civ.rleap_f,Option.bind_some]
  by_cases h1:m < 1
  · simp [h1]
  by_cases h2:12 < m
  · simp [h1,h2]
  by_cases h3:m=2
  · subst h3; cases h:Civ.leap y <;> simp
  by_cases h4:m=4
  · subst h4; simp
  by_cases h5:m=6
  · subst h5; simp
  by_cases h6:m=9
  · subst h6; simp
  by_cases h7:m=11
  · subst h7; simp
  simp [h1,h2,h3,h4,h5,h6,h7]
theorem Civ.rdays_f (y:Int):complineref16_days.f y=some (Civ.dby (y+1) - Civ.dby y):=by
  unfold complineref16_days.f
  rw [Civ.rleap_f]
  simp only [Option.bind_some]
  have:=Civ.leap_of y
  unfold Civ.dby
  split
  · rename_i h
    have:=this.1 h
    congr 1; omega
  · rename_i h
    have h2:¬ (y % 4=0∧(y % 100≠0∨y % 400=0)):=fun x=>h (this.2 x)
    congr 1; omega
theorem Civ.rdate_l1 (y d : Int) (hd0 : 0 ≤ d) (hd : d ≤ 376199) (hy : y = Civ.yr d) (e : Nat) : ∀ (k i : Nat), i + e = Civ.mi d → e + 1 < k →
    complineref16_Date.l1 k (d - Civ.dby y - Civ.cum y i) y (1+(i:Int))=some (Civ.yr d,1+(Civ.mi d:Int),Civ.dy d,0):=by
  have sp:=Civ.mi_spec hd0 hd
  have bd:=Civ.yr_bd hd0 hd
  subst hy
  have hdb:=Civ.dby_bd bd.1 (by omega)
  induction e with
  | zero=>
    intro k i h2 hk
    obtain ⟨k,rfl⟩:∃ j,k=j+1:=⟨k - 1,by omega⟩
    obtain rfl:i=Civ.mi d:=by omega
    simp only [complineref16_Date.l1]
    rw [Civ.rlen_f _ _ _ (by omega)]
    simp only [Option.bind_some]
    have hs:=Civ.cum_len (Civ.yr d) (Civ.mi d)
    rw [show ((Civ.mi d:Int)+1)=1+Civ.mi d by omega] at hs
    have hc:=Civ.cum_bd (Civ.yr d) (Civ.mi d)
    rw [if_neg (by omega),Civ.w64 (by omega) (by omega)]
    unfold Civ.dy
    rfl
  | succ e ih=>
    intro k i h2 hk
    obtain ⟨k,rfl⟩:∃ j,k=j+1:=⟨k - 1,by omega⟩
    simp only [complineref16_Date.l1]
    rw [Civ.rlen_f _ _ _ (by omega)]
    simp only [Option.bind_some]
    have hs:=Civ.cum_len (Civ.yr d) i
    rw [show ((i:Int)+1)=1+i by omega] at hs
    have hmo:=Civ.cum_mono (Civ.yr d) (show i+1≤Civ.mi d by omega)
    have hc:=Civ.cum_bd (Civ.yr d) i
    have hl:=Civ.len_bd (Civ.yr d) (1+i)
    rw [if_pos (by omega),Civ.w64 (by omega) (by omega),Civ.w64 (by omega) (by omega)]
    rw [← ih k (i+1) (by omega) (by omega)]
    congr 1
    omega
theorem Civ.rdate_l0 (d : Int) (hd0 : 0 ≤ d) (hd : d ≤ 376199) (e : Nat) : ∀ (k : Nat) (i : Int), 1970 ≤ i → i + e = Civ.yr d → e + 40 < k →
    complineref16_Date.l0 k (d - Civ.dby i) i 1=some (Civ.yr d,1+(Civ.mi d:Int),Civ.dy d,0):=by
  have sp:=Civ.mi_spec hd0 hd
  have bd:=Civ.yr_bd hd0 hd
  have up:=Civ.yi_up hd
  have lo:=Civ.yi_lo hd0
  induction e with
  | zero=>
    intro k i h1 h2 hk
    obtain ⟨k,rfl⟩:∃ j,k=j+1:=⟨k - 1,by omega⟩
    obtain rfl:i=Civ.yr d:=by omega
    simp only [complineref16_Date.l0]
    rw [Civ.rdays_f]
    simp only [Option.bind_some]
    rw [if_neg (by unfold Civ.yr at *; omega)]
    have:=Civ.rdate_l1 _ d hd0 hd rfl (Civ.mi d) k 0 (by omega) (by omega)
    simpa [Civ.cum] using this
  | succ e ih=>
    intro k i h1 h2 hk
    obtain ⟨k,rfl⟩:∃ j,k=j+1:=⟨k - 1,by omega⟩
    simp only [complineref16_Date.l0]
    rw [Civ.rdays_f]
    simp only [Option.bind_some]
    have hm:=Civ.dby_mono (show i+1≤Civ.yr d by omega)
    have b1:=Civ.dby_bd h1 (show i≤3000 by omega)
    have b2:=Civ.dby_bd (show 1970≤i+1 by omega) (show i+1≤3000 by omega)
    rw [if_pos (by unfold Civ.yr at *; omega),Civ.w64 (by omega) (by omega),Civ.w64 (by omega) (by omega)]
    rw [← ih k (i+1) (by omega) (by omega) (by omega)]
    congr 1
    omega
theorem Civ.rdate_f (d:Int)(k:Nat)(hk:1200≤k):complineref16_Date.f k d=some (Civ.date d):=by
  obtain ⟨k,rfl⟩:∃ j,k=j+1:=⟨k - 1,by omega⟩
  unfold complineref16_Date.f Civ.date
  by_cases h1:d < 0
  · rw [if_pos h1,if_pos (.inl h1)]; simp [complineref16_Date.j0]
  rw [if_neg h1]
  by_cases h2:376199 < d
  · rw [if_pos (.inr h2)]; simp [complineref16_Date.j0,h2]
  rw [if_neg (by omega)]
  have hd:decide (d > 376199)=false:=decide_eq_false (by omega)
  simp only [complineref16_Date.j0,hd]
  have b:=Civ.yr_bd (d:=d) (by omega) (by omega)
  have:=Civ.rdate_l0 d (by omega) (by omega) (Civ.yr d - 1970).toNat k 1970 (by omega) (by omega) (by omega)
  rw [show Civ.dby 1970=0 by decide,Int.sub_zero] at this
  rw [if_neg (by simp),this]
/-! The document's days. -/
theorem rhas_f (b:Int)(s:Bool)(v:Int)(hb:InU b)(k:Nat)(hk:70≤k):complineref18_Has.f k b s v=some (Dy.has b v):=by
  rw [show k=(k - 70)+70 by omega,Ref_has_all b s v hb]
  rfl
theorem ron_f (b0 : Int) (s0 : Bool) (b1 : Int) (s1 : Bool) (b2 : Int) (s2 : Bool) (b3 : Int) (s3 : Bool) (b4 : Int) (s4 : Bool) (h2 : InU b2) (h3 : InU b3) (h4 : InU b4) (mo d w : Int) :
    complineref21_On.f b0 s0 b1 s1 b2 s2 b3 s3 b4 s4 mo d w=some (Dy.has b3 mo && Dy.by_ b2 s2 b4 s4 d w):=by
  unfold complineref21_On.f
  rw [rhas_f b3 s3 mo h3 100 (by decide),rhas_f b2 s2 d h2 100 (by decide),rhas_f b4 s4 w h4 100 (by decide)]
  simp only [Option.bind_some]
  unfold Dy.by_
  cases s2 <;> cases s4 <;> cases Dy.has b3 mo <;> cases Dy.has b2 d <;> cases Dy.has b4 w <;> rfl
theorem rodd_f (b0 : Int) (s0 : Bool) (b1 : Int) (s1 : Bool) (b2 : Int) (s2 : Bool) (b3 : Int) (s3 : Bool) (b4 : Int) (s4 : Bool) (h0 : InU b0) (h1 : InU b1) (h2 : InU b2) (h3 : InU b3) (h4 : InU b4) (k : Nat) (hk : 500 ≤ k) :
    ∃ n e,complineref19_Check.f k b0 s0 b1 s1 b2 s2 b3 s3 b4 s4=some (n,e)∧day_odd.f b0 s0 b1 s1 b2 s2 b3 s3 b4 s4=some (e != 0):=by
  obtain ⟨n,e,h,hr⟩ :=SC_ref b0 s0 b1 s1 b2 s2 b3 s3 b4 s4 h0 h1 h2 h3 h4
  refine ⟨n,e,at_rounds (fun k=>complineref19_Check.mono _ _ _ _ _ _ _ _ _ _ k) hk hr,?_⟩
  unfold day_odd.f
  rw [h]
  rfl
/-! The document's steps answer the plain ones. -/
theorem Nx.find_split (p:Nat→Bool):∀ (m n i:Nat),Nx.find p (m+n) i=match Nx.find p m i with | some r=>some r | none=>Nx.find p n (i+m)
  | 0,n,i=>by rw [Nat.zero_add]; rfl
  | m+1,n,i=>by
    rw [show m+1+n=(m+n)+1 by omega]
    show (if p i=true then some i else Nx.find p (m+n) (i+1))=match (if p i=true then some i else Nx.find p m (i+1)) with | some r=>some r | none=>Nx.find p n (i+(m+1))
    by_cases h:p i=true
    · rw [if_pos h,if_pos h]
    · rw [if_neg h,if_neg h,Nx.find_split p m n (i+1),show i+1+m=i+(m+1) by omega]
theorem Nx.find_day (dB tB:Nat→Bool)(D:Nat):∀ (k u:Nat),u+k≤1440→Nx.find (fun t=>dB (t / 1440) && tB (t % 1440)) k (D*1440+u)=if dB D=true then (Nx.find tB k u).map (fun r=>D*1440+r) else none
  | 0,u,_=>by unfold Nx.find; split <;> rfl
  | k+1,u,h=>by
    have ih:=Nx.find_day dB tB D k (u+1) (by omega)
    unfold Nx.find
    rw [show D*1440+u+1=D*1440+(u+1) by omega,ih,show (D*1440+u) / 1440=D by omega,show (D*1440+u) % 1440=u by omega]
    cases dB D with
    | false=>rw [Bool.false_and,if_neg (by decide),if_neg (by decide),if_neg (by decide)]
    | true=>
      rw [Bool.true_and,if_pos rfl,if_pos rfl]
      by_cases c:tB u=true
      · rw [if_pos c,if_pos c]; rfl
      · rw [if_neg c,if_neg c]
theorem R22.up_no (atf:Int→Option Bool)(D:Int)(k:Nat)(t:Int):R22.up false atf D (k+1) t=some none:=by
  rw [R22.up,if_neg (by rintro ⟨h,_⟩; cases h)]
theorem R22.up_yes {atf:Int→Option Bool}{tB:Nat→Bool}(hat:∀ u:Nat,u < 1440→atf (u:Int)=some (tB u))(D:Nat)(hD:D≤376199):∀ (e k t:Nat),t+e=1440→e < k→R22.up true atf (D:Int) k (t:Int)=some ((Nx.find tB (1440 - t) t).map fun u:Nat=>((D*1440+u:Nat):Int))
  | 0,k,t,h1,h2=>by
    obtain ⟨k,rfl⟩:∃ j,k=j+1:=⟨k - 1,by omega⟩
    rw [R22.up,if_neg (by omega),show 1440 - t=0 by omega]
    rfl
  | e+1,k,t,h1,h2=>by
    obtain ⟨k,rfl⟩:∃ j,k=j+1:=⟨k - 1,by omega⟩
    have ih:=R22.up_yes hat D hD e k (t+1) (by omega) (by omega)
    rw [R22.up,if_pos ⟨rfl,by omega⟩,hat t (by omega),Option.bind_some,show 1440 - t=(1440 - (t+1))+1 by omega,Nx.find]
    by_cases c:tB t=true
    · rw [if_pos c,if_pos c,Civ.w64 (x:=(D:Int)*1440) (by omega) (by omega),Civ.w64 (by omega) (by omega)]
      simp
    · rw [if_neg c,if_neg c,Civ.w64 (by omega) (by omega),show (t:Int)+1=((t+1:Nat):Int) by omega,ih]
def Nx.ansI (o:Option Nat):Int × Int:=match o with | some r=>((r:Int),0) | none=>(0,11)
/-- How the document goes on from a day. -/
structure R22.Goes (onf:Int→Int→Int→Int→Option Bool) (atf:Int→Option Bool) (aft bef:Int→Int→Int→Int→Option (Int × Int × Int × Int)) (dB tB:Nat→Bool):Prop where
  gon:∀ D:Nat,D≤376199→onf (D:Int) (Civ.yr D) (1+(Civ.mi D:Int)) (Civ.dy D)=some (dB D)
  gat:∀ u:Nat,u < 1440→atf (u:Int)=some (tB u)
  gaft:∀ D:Nat,D < 376199→aft (D:Int) (Civ.yr D) (1+(Civ.mi D:Int)) (Civ.dy D)=some (((D+1:Nat):Int),Civ.yr ((D+1:Nat):Int),1+(Civ.mi ((D+1:Nat):Int):Int),Civ.dy ((D+1:Nat):Int))
  gend:∃ y m d,aft 376199 (Civ.yr 376199) (1+(Civ.mi 376199:Int)) (Civ.dy 376199)=some (376200,y,m,d)
  gbef:∀ D:Nat,D < 376199→bef ((D+1:Nat):Int) (Civ.yr ((D+1:Nat):Int)) (1+(Civ.mi ((D+1:Nat):Int):Int)) (Civ.dy ((D+1:Nat):Int))=some ((D:Int),Civ.yr (D:Int),1+(Civ.mi (D:Int):Int),Civ.dy (D:Int))
  gbot:∃ y m d,bef 0 (Civ.yr 0) (1+(Civ.mi 0:Int)) (Civ.dy 0)=some (-1,y,m,d)
theorem R22.next_is {onf atf aft bef dB tB}(g:R22.Goes onf atf aft bef dB tB):∀ (e k D t:Nat),D+e=376199→e+1 < k→t < 1440→R22.next onf atf aft k (t:Int) (D:Int) (Civ.yr D) (1+(Civ.mi D:Int)) (Civ.dy D)=some (Nx.ansI (Nx.find (fun t=>dB (t / 1440) && tB (t % 1440)) (541728000 - (D*1440+t)) (D*1440+t))):=by
  intro e
  induction e with
  | zero=>
    intro k D t h1 h2 ht
    obtain rfl:D=376199:=by omega
    obtain ⟨k,rfl⟩:∃ j,k=j+1+1:=⟨k - 2,by omega⟩
    obtain ⟨y,m,d,hn⟩ :=g.gend
    have hon:=g.gon 376199 (by omega)
    have hd:=Nx.find_day dB tB 376199 (1440 - t) t (by omega)
    rw [R22.next,if_pos (by decide),hon,Option.bind_some,show 541728000 - (376199*1440+t)=1440 - t by omega,hd]
    cases hdb:dB 376199 with
    | false=>
      rw [R22.up_no,Option.bind_some,if_neg (by decide)]
      dsimp only
      rw [show (((376199:Nat)):Int)=376199 from rfl,hn,Option.bind_some,R22.next,if_neg (by dsimp only; omega)]
      rfl
    | true=>
      rw [R22.up_yes g.gat 376199 (by omega) (1440 - t) 1500 t (by omega) (by omega),Option.bind_some,if_pos rfl]
      cases Nx.find tB (1440 - t) t with
      | some u=>rfl
      | none=>
        simp only [Option.map_none]
        rw [show (((376199:Nat)):Int)=376199 from rfl,hn,Option.bind_some,R22.next,if_neg (by dsimp only; omega)]
        rfl
  | succ e ih=>
    intro k D t h1 h2 ht
    obtain ⟨k,rfl⟩:∃ j,k=j+1:=⟨k - 1,by omega⟩
    have hon:=g.gon D (by omega)
    have hn:=g.gaft D (by omega)
    have hd:=Nx.find_day dB tB D (1440 - t) t (by omega)
    have ih2:=ih k (D+1) 0 (by omega) (by omega) (by omega)
    rw [show (D+1)*1440+0=(D*1440+t)+(1440 - t) by omega] at ih2
    rw [R22.next,if_pos (by omega),hon,Option.bind_some,show 541728000 - (D*1440+t)=(1440 - t)+(541728000 - (D*1440+t+(1440 - t))) by omega,Nx.find_split,hd]
    cases hdb:dB D with
    | false=>
      rw [R22.up_no,Option.bind_some,if_neg (by decide)]
      dsimp only
      rw [hn,Option.bind_some]
      exact ih2
    | true=>
      rw [R22.up_yes g.gat D (by omega) (1440 - t) 1500 t (by omega) (by omega),Option.bind_some,if_pos rfl]
      cases Nx.find tB (1440 - t) t with
      | some u=>rfl
      | none=>
        simp only [Option.map_none]
        rw [hn,Option.bind_some]
        exact ih2
/-! The document's functions of a day, as they are. -/
theorem Nx.mm (a b:Int)(h:0≤a):Int.tmod a b=a % b:=Int.tmod_eq_emod_of_nonneg h
theorem Nx.rhas {b:Int}(s:Bool)(hb:InU b)(v:Int)(k:Nat)(hk:70≤k):complineref18_Has.f k b s v=some (Dy.has b v):=rhas_f b s v hb k hk
theorem Nx.ron {b0 : Int} {s0 : Bool} {b1 : Int} {s1 : Bool} {b2 : Int} {s2 : Bool} {b3 : Int} {s3 : Bool} {b4 : Int} {s4 : Bool} (h2 : InU b2) (h3 : InU b3) (h4 : InU b4) (D : Nat) (hD : D ≤ 376199) :
    complineref22_on.f b0 s0 b1 s1 b2 s2 b3 s3 b4 s4 (D:Int) (Civ.yr D) (1+(Civ.mi D:Int)) (Civ.dy D)=some (Nx.dayB b2 s2 b3 b4 s4 (D:Int)):=by
  have e:Int.tmod (wrap64 (Int.tmod (D:Int) 7+4)) 7=((D:Int)+4) % 7:=by
    rw [Nx.mm (D:Int) 7 (by omega),Civ.w64 (by omega) (by omega),Nx.mm ((D:Int) % 7+4) 7 (by omega)]
    omega
  unfold complineref22_on.f
  rw [Nx.rhas s3 h3 _ 100 (by decide),e,ron_f b0 s0 b1 s1 b2 s2 b3 s3 b4 s4 h2 h3 h4 _ _ _,Option.bind_some]
  unfold Nx.dayB
  cases Dy.has b3 (1+(Civ.mi (D:Int):Int)) <;> rfl
theorem Nx.rat {b0 : Int} {s0 : Bool} {b1 : Int} {s1 : Bool} {b2 : Int} {s2 : Bool} {b3 : Int} {s3 : Bool} {b4 : Int} {s4 : Bool} (h0 : InU b0) (h1 : InU b1) (u : Nat) (hu : u < 1440) :
    complineref22_at.f b0 s0 b1 s1 b2 s2 b3 s3 b4 s4 (u:Int)=some (Nx.timB b0 b1 u):=by
  have e1:Int.tmod (u:Int) 60=((u % 60:Nat):Int):=by rw [Nx.mm _ _ (by omega)]; omega
  have e2:wrap64 (Int.tdiv (u:Int) 60)=((u / 60:Nat):Int):=by rw [Int.tdiv_eq_ediv_of_nonneg (by omega),Civ.w64 (by omega) (by omega)]; omega
  unfold complineref22_at.f
  rw [e1,e2,Nx.rhas s1 h1 _ 100 (by decide),Nx.rhas s0 h0 _ 100 (by decide),Nx.has_nat b1 _ (by omega),Nx.has_nat b0 _ (by omega),Option.bind_some]
  unfold Nx.timB
  cases Nx.bit b1 (u / 60) <;> rfl
theorem Nx.rday (D:Nat)(hD:D≤376199)(k:Nat)(hk:1200≤k):complineref22_day.f k (D:Int)=some ((D:Int),Civ.yr D,1+(Civ.mi D:Int),Civ.dy D):=by
  unfold complineref22_day.f
  rw [Civ.rdate_f (D:Int) k hk,Civ.date_is (by omega) (by omega),Option.bind_some]
theorem Nx.raft (D:Nat)(hD:D < 376199):complineref22_after.f (D:Int) (Civ.yr D) (1+(Civ.mi D:Int)) (Civ.dy D)=some (((D+1:Nat):Int),Civ.yr ((D+1:Nat):Int),1+(Civ.mi ((D+1:Nat):Int):Int),Civ.dy ((D+1:Nat):Int)):=by
  have n:=Civ.next_day (d:=(D:Int)) (by omega) (by omega)
  obtain ⟨ok,-⟩ :=Civ.date_ok (d:=(D:Int)) (by omega) (by omega)
  obtain ⟨q1,q2,q3,q4,q5,q6⟩ :=ok
  have hb:=Civ.len_bd (Civ.yr (D:Int)) (1+(Civ.mi (D:Int):Int))
  rw [show (D:Int)+1=((D+1:Nat):Int) by omega,Civ.date_is (by omega) (by omega)] at n
  have w0:wrap64 ((D:Int)+1)=((D+1:Nat):Int):=by rw [Civ.w64 (by omega) (by omega)]; omega
  have w1:wrap64 (Civ.dy (D:Int)+1)=Civ.dy (D:Int)+1:=Civ.w64 (by omega) (by omega)
  have w2:wrap64 (1+(Civ.mi (D:Int):Int)+1)=1+(Civ.mi (D:Int):Int)+1:=Civ.w64 (by omega) (by omega)
  have w3:wrap64 (Civ.yr (D:Int)+1)=Civ.yr (D:Int)+1:=Civ.w64 (by omega) (by omega)
  unfold complineref22_after.f
  rw [Civ.rlen_f _ _ 100 (by decide),Option.bind_some,w0,w1,w2,w3]
  by_cases c1:Civ.dy (D:Int) < Civ.len (Civ.yr (D:Int)) (1+(Civ.mi (D:Int):Int))
  · rw [if_pos c1] at n ⊢
    obtain ⟨n1,n2,n3,-⟩ :=Prod.mk.inj n |>.imp id (fun x=>Prod.mk.inj x |>.imp id Prod.mk.inj)
    rw [n1,n2,n3]
  · rw [if_neg c1] at n ⊢
    by_cases c2:1+(Civ.mi (D:Int):Int) < 12
    · rw [if_pos c2] at n ⊢
      obtain ⟨n1,n2,n3,-⟩ :=Prod.mk.inj n |>.imp id (fun x=>Prod.mk.inj x |>.imp id Prod.mk.inj)
      rw [n1,n2,n3]
    · rw [if_neg c2] at n ⊢
      obtain ⟨n1,n2,n3,-⟩ :=Prod.mk.inj n |>.imp id (fun x=>Prod.mk.inj x |>.imp id Prod.mk.inj)
      rw [n1,n2,n3]
theorem Nx.raft_end:∃ y m d,complineref22_after.f 376199 (Civ.yr 376199) (1+(Civ.mi 376199:Int)) (Civ.dy 376199)=some (376200,y,m,d):=by
  unfold complineref22_after.f
  rw [Civ.rlen_f _ _ 100 (by decide),Option.bind_some,show wrap64 ((376199:Int)+1)=376200 from by rw [Civ.w64 (by omega) (by omega)]; rfl]
  split
  · exact ⟨_,_,_,rfl⟩
  · split
    · exact ⟨_,_,_,rfl⟩
    · exact ⟨_,_,_,rfl⟩
def Rea.bef (D _ _ _:Int):Option (Int × Int × Int × Int):=if D=0 then some (-1,0,0,0) else some (D - 1,Civ.yr (D - 1),1+(Civ.mi (D - 1):Int),Civ.dy (D - 1))
theorem Rea.bef_ok (D:Nat)(y m d:Int):Rea.bef ((D+1:Nat):Int) y m d=some ((D:Int),Civ.yr (D:Int),1+(Civ.mi (D:Int):Int),Civ.dy (D:Int)):=by
  unfold Rea.bef
  rw [if_neg (by omega),show ((D+1:Nat):Int) - 1=(D:Int) by omega]
theorem Rea.bef_bot (y m d:Int):∃ y' m' d',Rea.bef 0 y m d=some (-1,y',m',d'):=⟨_,_,_,rfl⟩
theorem Nx.rgoes {b0 : Int} {s0 : Bool} {b1 : Int} {s1 : Bool} {b2 : Int} {s2 : Bool} {b3 : Int} {s3 : Bool} {b4 : Int} {s4 : Bool} (h0 : InU b0) (h1 : InU b1) (h2 : InU b2) (h3 : InU b3) (h4 : InU b4) (k : Nat) (hk : 1200 ≤ k) :
    R22.Goes (fun D y m d=>complineref22_on.f b0 s0 b1 s1 b2 s2 b3 s3 b4 s4 D y m d) (fun t=>complineref22_at.f b0 s0 b1 s1 b2 s2 b3 s3 b4 s4 t) (fun D y m d=>complineref22_after.f D y m d) Rea.bef (fun D=>Nx.dayB b2 s2 b3 b4 s4 (D:Int)) (Nx.timB b0 b1):=
  ⟨fun D hD=>Nx.ron h2 h3 h4 D hD,fun u hu=>Nx.rat h0 h1 u hu,fun D hD=>Nx.raft D hD,Nx.raft_end,fun D _=>Rea.bef_ok D _ _ _,Rea.bef_bot _ _ _⟩
theorem Nx.rodd {b0 : Int} {s0 : Bool} {b1 : Int} {s1 : Bool} {b2 : Int} {s2 : Bool} {b3 : Int} {s3 : Bool} {b4 : Int} {s4 : Bool} (h0 : InU b0) (h1 : InU b1) (h2 : InU b2) (h3 : InU b3) (h4 : InU b4) {ob : Bool} (A : day_odd.f b0 s0 b1 s1 b2 s2 b3 s3 b4 s4 = some ob) (k : Nat) (hk : 500 ≤ k) :
    complineref22_odd.f k b0 s0 b1 s1 b2 s2 b3 s3 b4 s4=some ob:=by
  obtain ⟨n,e,hr,ho⟩ :=rodd_f b0 s0 b1 s1 b2 s2 b3 s3 b4 s4 h0 h1 h2 h3 h4 k hk
  rw [ho] at A
  unfold complineref22_odd.f
  rw [hr,Option.bind_some]
  exact A
theorem Nx.ans_next (p:Nat→Bool)(m:Int)(h:m < 541727999)(s:Nat)(hs:(max m (-1)+1).toNat=s):Nx.next false p m=Nx.ansI (Nx.find p (541728000 - s) s):=by
  unfold Nx.next Nx.ansI
  rw [if_neg Bool.false_ne_true,if_neg (by omega),hs]
  cases Nx.find p (541728000 - s) s <;> rfl
theorem Nx.rnext {b0 : Int} {s0 : Bool} {b1 : Int} {s1 : Bool} {b2 : Int} {s2 : Bool} {b3 : Int} {s3 : Bool} {b4 : Int} {s4 : Bool} (h0 : InU b0) (h1 : InU b1) (h2 : InU b2) (h3 : InU b3) (h4 : InU b4) {ob : Bool} (A : day_odd.f b0 s0 b1 s1 b2 s2 b3 s3 b4 s4 = some ob) (m : Int) :
    complineref22_Next.f b0 s0 b1 s1 b2 s2 b3 s3 b4 s4 m=some (Nx.next ob (Nx.at2 b0 b1 b2 s2 b3 b4 s4) m):=by
  unfold complineref22_Next.f
  rw [Nx.rodd h0 h1 h2 h3 h4 A 2000 (by decide),Option.bind_some]
  cases ob with
  | true=>rw [if_pos rfl]; unfold Nx.next; rw [if_pos rfl]
  | false=>
    rw [if_neg Bool.false_ne_true]
    by_cases hl:541727999≤m
    · rw [if_pos hl]; unfold Nx.next; rw [if_neg Bool.false_ne_true,if_pos hl]
    rw [if_neg hl]
    obtain ⟨s,hs⟩:∃ s:Nat,(max m (-1)+1).toNat=s:=⟨_,rfl⟩
    have hs2:wrap64 (mx m (-1)+1)=(s:Int):=by
      have:mx m (-1)+1=(s:Int):=by unfold mx; split <;> omega
      rw [this,Civ.w64 (by omega) (by omega)]
    have hlt:s < 541728000:=by omega
    have hd:wrap64 (Int.tdiv (s:Int) 1440)=((s / 1440:Nat):Int):=by rw [Int.tdiv_eq_ediv_of_nonneg (by omega),Civ.w64 (by omega) (by omega)]; omega
    have hm:Int.tmod (s:Int) 1440=((s % 1440:Nat):Int):=by rw [Nx.mm _ _ (by omega)]; omega
    rw [Nx.ans_next _ m (by omega) s hs,hs2,hd,hm,Nx.rday (s / 1440) (by omega) 2000 (by decide),Option.bind_some]
    have e1:s / 1440*1440+s % 1440=s:=by omega
    have:=R22.next_is (Nx.rgoes (s0:=s0) (s1:=s1) (s2:=s2) (s3:=s3) (s4:=s4) h0 h1 h2 h3 h4 2000 (by decide)) (376199 - s / 1440) 400000 (s / 1440) (s % 1440) (by omega) (by omega) (by omega)
    rw [e1] at this
    exact this
/-! The document's rearm, as plain numbers. -/
theorem Rea.r19 (b0 : Int) (s0 : Bool) (b1 : Int) (s1 : Bool) (b2 : Int) (s2 : Bool) (b3 : Int) (s3 : Bool) (b4 : Int) (s4 : Bool) (h0 : InU b0) (h1 : InU b1) (h2 : InU b2) (h3 : InU b3) (h4 : InU b4) {n e : Int} (h : spec_Check.f b0 s0 b1 s1 b2 s2 b3 s3 b4 s4 = some (n, e)) : ∀ j : Nat,
    complineref19_Check.f (500+j) b0 s0 b1 s1 b2 s2 b3 s3 b4 s4=some (n,e):=by
  intro j
  obtain ⟨n',e',q1,q2⟩ :=SC_ref b0 s0 b1 s1 b2 s2 b3 s3 b4 s4 h0 h1 h2 h3 h4
  rw [h] at q1
  rw [q1]
  exact at_rounds (fun k=>complineref19_Check.mono _ _ _ _ _ _ _ _ _ _ k) (Nat.le_add_right 500 j) q2
theorem Rea.rchk {k0 p l b0 : Int} {s0 : Bool} {b1 : Int} {s1 : Bool} {b2 : Int} {s2 : Bool} {b3 : Int} {s3 : Bool} {b4 : Int} {s4 : Bool} (h0 : InU b0) (h1 : InU b1) (h2 : InU b2) (h3 : InU b3) (h4 : InU b4) (hp : 0 ≤ p) {n e : Int} (h : spec_Check.f b0 s0 b1 s1 b2 s2 b3 s3 b4 s4 = some (n, e)) (j : Nat) :
    complineref23_Check.f (504+j) k0 p l b0 s0 b1 s1 b2 s2 b3 s3 b4 s4=some (Rea.chk k0 p l (Rea.Z b0 s0 b1 s1 b2 s2 b3 s3 b4 s4) e):=by
  have r:=Rea.r19 b0 s0 b1 s1 b2 s2 b3 s3 b4 s4 h0 h1 h2 h3 h4 h j
  have hz:(!((b0 == 0 && (!s0)) && ((b1 == 0 && (!s1)) && ((b2 == 0 && (!s2)) && ((b3 == 0 && (!s3)) && ((b4 == 0 && (!s4))))))))=!(decide (Rea.Z b0 s0 b1 s1 b2 s2 b3 s3 b4 s4)):=by
    congr 1
    apply Bool.eq_iff_iff.2
    simp only [Bool.and_eq_true,beq_iff_eq,Bool.not_eq_true',decide_eq_true_eq]
    constructor
    · rintro ⟨⟨q0,q1⟩,⟨q2,q3⟩,⟨q4,q5⟩,⟨q6,q7⟩,q8,q9⟩
      unfold Rea.Z
      exact ⟨q0,q1,q2,q3,q4,q5,q6,q7,q8,q9⟩
    · rintro ⟨q0,q1,q2,q3,q4,q5,q6,q7,q8,q9⟩
      exact ⟨⟨q0,q1⟩,⟨q2,q3⟩,⟨q4,q5⟩,⟨q6,q7⟩,q8,q9⟩
  unfold complineref23_Check.f
  rw [show 504+j=500+j+1+1+1+1 by omega]
  simp only [complineref23_Check.j0,complineref23_Check.j1,complineref23_Check.j2,complineref23_Check.j3,hz,r,Option.bind_some]
  unfold Rea.chk
  by_cases d0:k0 < 0
  · simp [d0,show ¬ k0=0 by omega,show ¬ k0=1 by omega,show ¬ k0=2 by omega]
  by_cases d1:k0 > 2
  · simp [d0,d1,show ¬ k0=0 by omega,show ¬ k0=1 by omega,show ¬ k0=2 by omega]
  by_cases hl0:l < 0
  · have hl1:¬ l=0:=by omega
    rcases (by omega:k0=0∨k0=1∨k0=2) with rfl | rfl | rfl
    · simp [hl0,hl1]
    · by_cases hp0:p=0
      · simp [hl0,hl1,hp0]
      · simp [hl0,hl1,hp0]
    · simp [hl0,hl1]
  rcases (by omega:k0=0∨k0=1∨k0=2) with rfl | rfl | rfl
  · by_cases hp0:p=0
    · by_cases hl1:l=0
      · by_cases hZ:Rea.Z b0 s0 b1 s1 b2 s2 b3 s3 b4 s4
        · simp [hl0,hl1,hp0,hZ]
        · simp [hl0,hl1,hp0,hZ]
      · simp [hl0,hl1,hp0]
    · simp [hl0,hp0]
  · by_cases hp0:p=0
    · simp [hl0,hp0]
    · by_cases hZ:Rea.Z b0 s0 b1 s1 b2 s2 b3 s3 b4 s4
      · simp [hl0,hp0,hZ]
      · simp [hl0,hp0,hZ]
  · by_cases hp0:p=0
    · by_cases hl1:l=0
      · by_cases he:e=0
        · simp [hl0,hl1,hp0,he]
        · simp [hl0,hl1,hp0,he]
      · simp [hl0,hl1,hp0]
    · simp [hl0,hp0]
theorem Rea.radd (a d:Nat)(ha:a < 18446744073709551616)(hd:d < 18446744073709551616):complineref01_Add.f a d=tick_Add.f a d:=by
  rw [Rea.add_is a d ha hd]
  unfold complineref01_Add.f
  rw [Rea.u64n (by omega) (by omega)]
  by_cases h:18446744073709551616≤(a:Int)+d
  · rw [if_pos h,if_pos (by omega)]
  · rw [if_neg h,if_neg (by omega),Rea.u64n (by omega) (by omega)]
theorem Rea.raft (a p n:Nat)(ha:a < 18446744073709551616)(hp:p < 18446744073709551616)(hn:n < 18446744073709551616)(p0:0 < p):complineref01_After.f a p n=tick_After.f a p n:=by
  rw [Rea.aft_is a p n ha hp hn p0]
  unfold complineref01_After.f
  rw [if_neg (by omega)]
  by_cases h:(a:Int) > n
  · rw [if_pos h,Rea.radd a p ha hp,Rea.add_is a p ha hp,Option.bind_some,Rea.sat_fst,show n - a=0 by omega,Nat.zero_div,Nat.zero_mul,Nat.add_zero,show ((a+p:Nat):Int)=(a:Int)+p by omega]
    rfl
  · rw [if_neg h]
    have e1:IntKind.u64.wrap ((n:Int) - a)=((n - a:Nat):Int):=by rw [show (n:Int) - a=((n - a:Nat):Int) by omega]; exact Rea.u64n (by omega) (by omega)
    have e2:Int.tmod ((n - a:Nat):Int) (p:Int)=(((n - a) % p:Nat):Int):=by rw [Int.tmod_eq_emod_of_nonneg (by omega)]; exact (Int.natCast_emod _ _).symm
    have hm:=Nat.mod_add_div (n - a) p
    have hle:=Nat.mod_le (n - a) p
    have hmc:p*((n - a) / p)=(n - a) / p*p:=Nat.mul_comm _ _
    have hd:((n - a) / p*p) / p=(n - a) / p:=Nat.mul_div_cancel _ p0
    rw [e1,e2]
    rw [hmc] at hm
    generalize (n - a) % p=m at hm hle ⊢
    have hy:(n - a) / p≤n - a:=Nat.div_le_self _ _
    generalize (n - a) / p=y at hm hd hy ⊢
    generalize y*p=x at hm hd ⊢
    have e3:IntKind.u64.wrap ((n:Int) - m)=((a+x:Nat):Int):=by rw [show (n:Int) - m=((a+x:Nat):Int) by omega]; exact Rea.u64n (by omega) (by omega)
    have e4:IntKind.u64.wrap (((n - a:Nat):Int) - m)=(x:Int):=by rw [show ((n - a:Nat):Int) - m=(x:Int) by omega]; exact Rea.u64n (by omega) (by omega)
    have e5:Int.tdiv (x:Int) (p:Int)=(y:Int):=by rw [Int.tdiv_eq_ediv_of_nonneg (by omega),← Int.natCast_ediv,hd]
    rw [e3,e4,e5,Rea.radd _ _ (by omega) hp,Rea.add_is _ _ (by omega) hp,Option.bind_some,Rea.sat_fst,Rea.u64n (by omega) (by omega),show (((a+x:Nat):Int)+(p:Int))=((a+x+p:Nat):Int) by omega]
theorem Rea.first_is {k0 p l b0 : Int} {s0 : Bool} {b1 : Int} {s1 : Bool} {b2 : Int} {s2 : Bool} {b3 : Int} {s3 : Bool} {b4 : Int} {s4 : Bool} (h0 : InU b0) (h1 : InU b1) (h2 : InU b2) (h3 : InU b3) (h4 : InU b4) (hp : 0 ≤ p) {n e : Int} (h : spec_Check.f b0 s0 b1 s1 b2 s2 b3 s3 b4 s4 = some (n, e)) (ho : day_odd.f b0 s0 b1 s1 b2 s2 b3 s3 b4 s4 = some (e != 0)) (j : Nat) (N D : Nat) (hN : N < 18446744073709551616) (hD : D < 18446744073709551616) :
    ∃ r,rearm_First.f k0 p l b0 s0 b1 s1 b2 s2 b3 s3 b4 s4 N D=some r∧complineref23_First.f (504+j) k0 p l b0 s0 b1 s1 b2 s2 b3 s3 b4 s4 N D=some r:=by
  unfold rearm_First.f complineref23_First.f
  rw [show (100:Nat)=98+2 from rfl,Rea.chk_is h,Rea.rchk h0 h1 h2 h3 h4 hp h,Option.bind_some,Option.bind_some]
  by_cases hc:Rea.chk k0 p l (Rea.Z b0 s0 b1 s1 b2 s2 b3 s3 b4 s4) e=0
  case neg=>rw [if_pos hc,if_neg hc]; exact ⟨_,rfl,rfl⟩
  rw [hc,if_neg (by decide),if_pos rfl]
  by_cases c:k0=2
  · rw [if_neg (by omega),if_pos c,if_pos c,Rea.mat_is h0 h1 h2 h3 h4 ho N hN]
    refine ⟨_,rfl,?_⟩
    have hm:complineref23_Minute.f (N:Int)=rearm_Minute.f (N:Int):=rfl
    rw [hm,Rea.minute_is N hN,Option.bind_some]
    unfold Rea.mat
    by_cases q:541727999 < N / 60
    · rw [if_pos q,if_pos q]
      exact if_neg Bool.false_ne_true
    · rw [if_neg q,if_neg q]
      dsimp only
      rw [if_pos rfl,Nx.rnext h0 h1 h2 h3 h4 ho,Option.bind_some]
      have hb:=Rea.next_bd (e != 0) (Nx.at2 b0 b1 b2 s2 b3 b4 s4) (N / 60)
      rw [Rea.u64n hb.1 (by omega),Rea.u64n (by omega) (by omega)]
      by_cases w:(Nx.next (e != 0) (Nx.at2 b0 b1 b2 s2 b3 b4 s4) ((N / 60:Nat):Int)).2=0
      · rw [if_pos w,w]
      · rw [if_neg w]
        have:(Nx.next (e != 0) (Nx.at2 b0 b1 b2 s2 b3 b4 s4) ((N / 60:Nat):Int)).1=0:=by
          cases hoo:(e != 0) with
          | true=>unfold Nx.next; rw [if_pos rfl]
          | false=>
            rw [hoo] at w
            rcases Nx.next_cases (Nx.at2 b0 b1 b2 s2 b3 b4 s4) ((N / 60:Nat):Int) (by omega) with ⟨r,q1,-⟩ | ⟨q1,-⟩
            · rw [q1] at w; exact absurd rfl w
            · rw [q1]
        rw [this]
        rfl
  · rcases Rea.chk_zero hc with q | q | q
    · rw [if_pos (.inl q.1),if_neg c,Rea.radd N D hN hD]
      unfold rearm_plan_soon.f
      rw [Rea.add_is N D hN hD]
      exact ⟨_,rfl,rfl⟩
    · rw [if_pos (.inr q.1),if_neg c,Rea.radd N D hN hD]
      unfold rearm_plan_soon.f
      rw [Rea.add_is N D hN hD]
      exact ⟨_,rfl,rfl⟩
    · exact absurd q.1 c
end Go.Proofs.YtepflnfnkfkldaaDoor.PRea
