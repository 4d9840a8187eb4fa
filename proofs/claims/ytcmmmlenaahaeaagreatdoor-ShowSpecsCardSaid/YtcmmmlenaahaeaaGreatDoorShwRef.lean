/- The document's show, as plain numbers. No condition. -/
import Derived.Test.YtcmmmlenaahaeaaGreatDoorPShwx13
import Derived.Test.YtcmmmlenaahaeaaGreatDoorPShwx14
import Derived.Test.YtcmmmlenaahaeaaGreatDoorPShwx16
import Derived.Test.YtcmmmlenaahaeaaGreatDoorPShwx18
import Derived.Test.YtcmmmlenaahaeaaGreatDoorPShwx19
import Derived.Test.YtcmmmlenaahaeaaGreatDoorShwLib
namespace Go.Proofs.YtcmmmlenaahaeaaGreatDoor.PShw
open Go.RowKit Go.Proofs.YtcmmmlenaahaeaaGreatDoorW.PrintWords Go.Proofs.YtcmmmlenaahaeaaGreatDoorW.PrintLast Go.Proofs.YtcmmmlenaahaeaaGreatDoorW.PrintMore
set_option linter.unusedVariables false
set_option linter.unusedSimpArgs false
/-! Words of a text, over lists of bytes. -/
theorem Lex.w64 {x:Int}(h1:-9223372036854775808≤x)(h2:x≤9223372036854775807):wrap64 x=x:=by unfold wrap64; omega
theorem Lex.mk_data (l:List UInt8):(Lex.mk l).data.toList=l:=rfl
theorem Lex.ext {a b:ByteArray}(h:a.data.toList=b.data.toList):a=b:=by rw [← Lex.mk_of a,← Lex.mk_of b,h]
theorem Lex.append_data (s t:ByteArray):(s ++ t).data.toList=s.data.toList ++ t.data.toList:=by
  rw [ByteArray.data_append]; simp
theorem Lex.one_data (s:ByteArray)(i:Nat)(h:i < s.size):(s.extract i (i+1)).data.toList=[s[i]'h]:=by
  rw [Lex.extract_data,show i+1 - i=1 by omega,List.drop_eq_getElem_cons (by rw [Lex.len]; exact h)]
  rfl
theorem Lex.toList_nil (w:ByteArray):w.toList=([]:List UInt8)↔w.data.toList=[]:=by rw [ByteArray.toList_eq]
theorem Lex.bt_eq (s:ByteArray)(i:Nat)(h:i < s.size):bt s (i:Int)=((s[i]'h).toNat:Int):=(bt_at s i (by simpa using h)).symm
theorem shr_nat (a n:Nat)(h:n < 64):shr .u64 (a:Int) (n:Int)=((a / 2 ^ n:Nat):Int):=by
  unfold shr
  rw [show min ((n:Int).toNat) (IntKind.bits .u64)=n by simp [IntKind.bits]; omega]
  rw [show (2:Int) ^ n=((2 ^ n:Nat):Int) by simp]
  simp
theorem shl_nat (a n:Nat)(h:n < 64):shl .u64 (a:Int) (n:Int)=((a*2 ^ n % 2 ^ 64:Nat):Int):=by
  unfold shl
  rw [u64w,show min ((n:Int).toNat) (IntKind.bits .u64)=n by simp [IntKind.bits]; omega]
  rw [show (2:Int) ^ n=((2 ^ n:Nat):Int) by simp]
  generalize 2 ^ n=q
  rw [show (2:Nat) ^ 64=18446744073709551616 by decide,Int.natCast_emod,Int.natCast_mul]
  rfl
theorem check_bad (b:Int)(s:Bool)(kind:Int)(hk:(Lex.limits kind).2.2≠0):field_Check.f b s kind=some (Lex.limits kind).2.2:=by
  unfold field_Check.f
  rw [Fld.limits_f]
  simp only [Option.bind_some]
  rw [if_neg hk]
theorem chk_tot (b:Int)(s:Bool)(i:Nat)(hi:i < 5):∃ e,field_Check.f b s (i:Int)=some e:=by
  have key:∀ (kind:Int) (lo hi:Nat),(Lex.limits kind).2.2=0→(Lex.limits kind).1=lo→top kind=hi→lo≤hi→hi≤59→∃ e,field_Check.f b s kind=some e:=by
    intro kind lo hi hk hlo hhi h1 h2
    rw [check_f b s kind lo hi hk hlo hhi h1 h2]
    repeat' split
    all_goals exact ⟨_,rfl⟩
  rcases (by omega:i=0∨i=1∨i=2∨i=3∨i=4) with rfl | rfl | rfl | rfl | rfl
  · exact key 0 0 59 rfl rfl rfl (by decide) (by decide)
  · exact key 1 0 23 rfl rfl rfl (by decide) (by decide)
  · exact key 2 1 31 rfl rfl rfl (by decide) (by decide)
  · exact key 3 1 12 rfl rfl rfl (by decide) (by decide)
  · exact key 4 0 6 rfl rfl rfl (by decide) (by decide)
/-! The reference's numbers, names and values. -/
theorem Lex.rdigit_f (c:UInt8):complineref17_digit.f (c.toNat:Int)=some (Lex.dig c):=by
  unfold complineref17_digit.f Lex.dig
  by_cases h:(c.toNat:Int)≥48
  · rw [if_pos h]
    have:48≤c.toNat:=by omega
    by_cases h2:c.toNat≤57
    · have:(c.toNat:Int)≤57:=by omega
      simp [*]
    · have:¬ (c.toNat:Int)≤57:=by omega
      simp [*]
  · rw [if_neg h]
    have:¬ 48≤c.toNat:=by omega
    simp [this]
theorem Lex.rnum_l (s : ByteArray) (hs : s.size ≤ 4) (d : Nat) : ∀ (k i : Nat) (z : Int), i + d = s.size → d < k → 0 ≤ z → z < 10 ^ i →
    complineref17_Number.l0 k s z i=some (match Lex.digs (s.data.toList.drop i) z with | some n=>(n,0) | none=>(0,2)):=by
  induction d with
  | zero=>
    intro k i z h hk h0 hz
    obtain ⟨k,rfl⟩:∃ j,k=j+1:=⟨k - 1,by omega⟩
    rw [List.drop_of_length_le (by rw [Lex.len]; omega)]
    simp only [complineref17_Number.l0,Lex.digs]
    rw [if_neg (by omega)]
  | succ d ih=>
    intro k i z h hk h0 hz
    obtain ⟨k,rfl⟩:∃ j,k=j+1:=⟨k - 1,by omega⟩
    have hi:i < s.size:=by omega
    have hdr:s.data.toList.drop i=(s[i]'hi) :: s.data.toList.drop (i+1):=by rw [List.drop_eq_getElem_cons (by rw [Lex.len]; exact hi)]; rfl
    rw [hdr]
    simp only [complineref17_Number.l0,Lex.digs]
    rw [if_pos (show (i:Int) < (s.size:Int) by omega),if_pos (by omega),Lex.bt_eq s i hi,Lex.rdigit_f]
    simp only [Option.bind_some]
    cases hd:Lex.dig (s[i]'hi)
    · simp
    · simp only [if_true]
      have hb:48≤(s[i]'hi).toNat∧(s[i]'hi).toNat≤57:=by simpa [Lex.dig] using hd
      have hp:(10:Int) ^ i≤1000:=by
        have h4:i=0∨i=1∨i=2∨i=3:=by omega
        rcases h4 with rfl | rfl | rfl | rfl <;> decide
      have hpp:(10:Int) ^ (i+1)=10*10 ^ i:=by rw [Int.pow_succ]; omega
      have hpos:(1:Int)≤10 ^ i:=by
        have h4:i=0∨i=1∨i=2∨i=3:=by omega
        rcases h4 with rfl | rfl | rfl | rfl <;> decide
      rw [Lex.w64 (x:=10*z) (by omega) (by omega),Lex.w64 (x:=((s[i]'hi).toNat:Int)) (by omega) (by omega),Lex.w64 (x:=10*z+_) (by omega) (by omega),Lex.w64 (x:=10*z+_ - 48) (by omega) (by omega),Lex.w64 (x:=(i:Int)+1) (by omega) (by omega)]
      have:=ih k (i+1) (10*z+(s[i]'hi).toNat - 48) (by omega) (by omega) (by omega) (by omega)
      exact_mod_cast this
theorem Lex.rnumber_f (s:ByteArray)(k:Nat)(hk:20≤k):complineref17_Number.f k s=some (Lex.number s):=by
  obtain ⟨k,rfl⟩:∃ j,k=j+1:=⟨k - 1,by omega⟩
  unfold complineref17_Number.f Lex.number
  by_cases h0:s.size=0
  · rw [if_pos (by omega),if_pos (.inl h0)]; simp [complineref17_Number.j0]
  rw [if_neg (by omega)]
  by_cases h4:4 < s.size
  · rw [if_pos (.inr h4)]
    have:(s.size:Int) > 4:=by omega
    simp [complineref17_Number.j0,this]
  have hd:decide ((s.size:Int) > 4)=false:=decide_eq_false (by omega)
  rw [hd,if_neg (by omega)]
  simp only [complineref17_Number.j0]
  rw [if_neg (by simp)]
  have:=Lex.rnum_l s (by omega) s.size k 0 0 (by omega) (by omega) (by omega) (by decide)
  exact_mod_cast this
theorem Lex.lowB_id {c:UInt8}(h:¬ (65≤c.toNat∧c.toNat≤90)):Lex.lowB c=c:=by
  unfold Lex.lowB Lex.lowI
  rw [if_neg (by omega)]
  simp
theorem Lex.rlower_l (s : ByteArray) (hs : s.size ≤ 1000000) (d : Nat) : ∀ (k i : Nat) (t : ByteArray), i + d = s.size → d < k → t.size ≤ i →
    complineref17_Lower.l0 k s t i=some (t ++ Lex.mk ((s.data.toList.drop i).map Lex.lowB)):=by
  induction d with
  | zero=>
    intro k i t h hk ht
    obtain ⟨k,rfl⟩:∃ j,k=j+1:=⟨k - 1,by omega⟩
    rw [List.drop_of_length_le (by rw [Lex.len]; omega)]
    simp only [complineref17_Lower.l0]
    rw [if_neg (by omega)]
    congr 1
    exact Lex.ext (by rw [Lex.append_data]; simp [Lex.mk])
  | succ d ih=>
    intro k i t h hk ht
    obtain ⟨k,rfl⟩:∃ j,k=j+1:=⟨k - 1,by omega⟩
    have hi:i < s.size:=by omega
    have hdr:s.data.toList.drop i=(s[i]'hi) :: s.data.toList.drop (i+1):=by rw [List.drop_eq_getElem_cons (by rw [Lex.len]; exact hi)]; rfl
    have hx:(s.extract i (i+1)).size=1:=by
      have:=congrArg List.length (Lex.one_data s i hi)
      rw [Lex.len] at this
      simpa using this
    obtain ⟨c,hc⟩:∃ c,(s[i]'hi)=c:=⟨_,rfl⟩
    have hone:=Lex.one_data s i hi
    rw [hdr,hc]
    rw [hc] at hone
    simp only [complineref17_Lower.l0]
    have hw1:wrap64 ((i:Int)+1)=((i+1:Nat):Int):=by rw [Lex.w64 (by omega) (by omega)]; omega
    have hn1:((i:Int)).toNat=i:=by omega
    have hn2:(((i+1:Nat):Int)).toNat=i+1:=by omega
    have a1:(i:Int)≤((i+1:Nat):Int):=by omega
    have a2:((i+1:Nat):Int)≤(s.size:Int):=by omega
    have a3:t.size+1≤9223372036854775807:=by omega
    have hcl:=c.toNat_lt
    rw [if_pos (show (i:Int) < (s.size:Int) by omega),if_pos (show (0:Int)≤i by omega),Lex.bt_eq s i hi,hc]
    simp only [hw1,hn1,hn2,hx,a1,a2,a3,if_true]
    have hs1:(strOfNums [((c.toNat:Int)+32) % 256]).size=1:=rfl
    have hgo:∀ u:ByteArray,u.data.toList=[Lex.lowB c]→complineref17_Lower.l0 k s (t ++ u) ((i+1:Nat):Int)=some (t ++ Lex.mk ((c :: s.data.toList.drop (i+1)).map Lex.lowB)):=by
      intro u hu
      have hus:u.size=1:=by rw [← Lex.len,hu]; rfl
      rw [ih k (i+1) (t ++ u) (by omega) (by omega) (by rw [ByteArray.size_append]; omega)]
      congr 1
      exact Lex.ext (by simp only [Lex.append_data,hu,Lex.mk_data,List.map_cons,List.append_assoc,List.singleton_append])
    by_cases h1:(c.toNat:Int)≥65
    · rw [if_pos h1]
      by_cases h2:(c.toNat:Int)≤90
      · rw [if_pos h2]
        simp only [Option.bind_some,hs1,a3,if_true]
        apply hgo
        unfold strOfNums Lex.lowB Lex.lowI
        rw [if_pos ⟨by omega,h2⟩,show ((c.toNat:Int)+32) % 256=(c.toNat:Int)+32 by omega]
        rfl
      · rw [if_neg h2]
        exact hgo _ (by rw [hone,Lex.lowB_id (by omega)])
    · rw [if_neg h1]
      exact hgo _ (by rw [hone,Lex.lowB_id (by omega)])
theorem Lex.rlower_f (s:ByteArray)(hs:s.size≤1000000)(k:Nat)(hk:s.size < k):complineref17_Lower.f k s=some (Lex.lowS s):=by
  unfold complineref17_Lower.f
  have:=Lex.rlower_l s hs s.size k 0 ⟨#[]⟩ (by omega) hk (by simp [ByteArray.size])
  rw [show ((0:Nat):Int)=0 from rfl] at this
  rw [this]
  congr 1
  exact Lex.ext (by rw [Lex.append_data,Lex.lowS_data]; simp [Lex.mk])
theorem Lex.rname_l (L : List ByteArray) (nm low : ByteArray) (n : Nat) (first : Int) (hL : L.length = n) (hn : n ≤ 12) (hf : 0 ≤ first) (hf1 : first ≤ 1)
    (hx:∀ j,j < n→rdOf ByteArray.empty L (j:Int)=nm.extract (3*j) (3*j+3)) (d:Nat):∀ (k i:Nat),i+d=n→d < k→(∀ j,j < i→Lex.hit nm low j=false)→
    complineref17_Name.l0 k L first low i=some (Lex.look nm n first low):=by
  induction d with
  | zero=>
    intro k i h hk hno
    obtain ⟨k,rfl⟩:∃ j,k=j+1:=⟨k - 1,by omega⟩
    simp only [complineref17_Name.l0]
    rw [if_neg (by omega),Lex.look,Lex.srch_eq (Lex.hit nm low) n n 0 n (by omega) (by omega) (by omega) (fun x _ hx=>hno x (by omega)) (by omega),if_neg (by omega)]
  | succ d ih=>
    intro k i h hk hno
    obtain ⟨k,rfl⟩:∃ j,k=j+1:=⟨k - 1,by omega⟩
    simp only [complineref17_Name.l0]
    rw [if_pos (show (i:Int) < (L.length:Int) by omega),if_pos (show (0:Int)≤i by omega),hx i (by omega)]
    have hh:((nm.extract (3*i) (3*i+3)).toList=low.toList)↔Lex.hit nm low i=true:=by unfold Lex.hit; rw [beq_iff_eq]
    by_cases c:Lex.hit nm low i=true
    · rw [if_pos (hh.2 c),Lex.w64 (by omega) (by omega),Lex.look,Lex.srch_eq (Lex.hit nm low) n n 0 i (by omega) (by omega) (by omega) (fun x _ hx=>hno x hx) (fun _=>c),if_pos (by omega)]
    · rw [if_neg (fun h=>c (hh.1 h)),Lex.w64 (by omega) (by omega)]
      have:=ih k (i+1) (by omega) (by omega) (fun j hj=>by
        by_cases e:j=i
        · rw [e]; simpa using c
        · exact hno j (by omega))
      exact_mod_cast this
theorem Lex.rname_f (s:ByteArray)(kind:Int)(k:Nat)(hk:40≤k):complineref17_Name.f k s kind=some (Lex.name s kind):=by
  obtain ⟨k,rfl⟩:∃ j,k=j+1+1:=⟨k - 2,by omega⟩
  unfold complineref17_Name.f Lex.name Lex.namesOf
  by_cases h3:s.size=3
  · rw [if_pos (by omega),if_neg (show ¬ (s.size≠3) by omega)]
    by_cases k3:kind=3
    · subst k3
      simp only [if_true,complineref17_Name.j0,complineref17_Name.j1]
      rw [if_neg (show ¬ (3:Int)=4 by decide),Lex.rlower_f s (by omega) _ (by omega)]
      simp only [Option.bind_some]
      have:=Lex.rname_l [⟨#[106,97,110]⟩,⟨#[102,101,98]⟩,⟨#[109,97,114]⟩,⟨#[97,112,114]⟩,⟨#[109,97,121]⟩,⟨#[106,117,110]⟩,⟨#[106,117,108]⟩,⟨#[97,117,103]⟩,⟨#[115,101,112]⟩,⟨#[111,99,116]⟩,⟨#[110,111,118]⟩,⟨#[100,101,99]⟩] Lex.months (Lex.lowS s) 12 1 rfl (by decide) (by decide) (by decide) (by decide +kernel) 12 k 0 (by omega) (by omega) (by intro j hj; omega)
      exact_mod_cast this
    · rw [if_neg k3,if_neg k3]
      by_cases k4:kind=4
      · subst k4
        simp only [complineref17_Name.j0,complineref17_Name.j1]
        simp only [if_true]
        rw [Lex.rlower_f s (by omega) _ (by omega)]
        simp only [Option.bind_some]
        have:=Lex.rname_l [⟨#[115,117,110]⟩,⟨#[109,111,110]⟩,⟨#[116,117,101]⟩,⟨#[119,101,100]⟩,⟨#[116,104,117]⟩,⟨#[102,114,105]⟩,⟨#[115,97,116]⟩] Lex.days (Lex.lowS s) 7 0 rfl (by decide) (by decide) (by decide) (by decide +kernel) 7 k 0 (by omega) (by omega) (by intro j hj; omega)
        exact_mod_cast this
      · simp only [complineref17_Name.j0,complineref17_Name.j1]
        rw [if_neg k4,if_neg k4,Lex.rlower_f s (by omega) _ (by omega)]
        simp only [Option.bind_some]
        have:=Lex.rname_l [] ⟨#[]⟩ (Lex.lowS s) 0 0 rfl (by decide) (by decide) (by decide) (by intro j hj; omega) 0 k 0 (by omega) (by omega) (by intro j hj; omega)
        exact_mod_cast this
  · rw [if_neg (by omega),if_pos h3]
theorem Lex.rlimits_f (kind:Int):complineref17_Limits.f kind=some (Lex.limits kind):=by
  unfold complineref17_Limits.f Lex.limits
  repeat' split
  all_goals rfl
theorem Lex.name_neg (s:ByteArray)(kind:Int):(Lex.name s kind).2≠0→(Lex.name s kind).1=0:=by
  unfold Lex.name Lex.look
  repeat' split
  all_goals simp
theorem Lex.number_neg (s:ByteArray):(Lex.number s).2≠0→(Lex.number s).1=0:=by
  unfold Lex.number
  repeat' split
  all_goals simp
theorem Lex.read_neg (s:ByteArray)(kind:Int):(Lex.read s kind).2≠0→(Lex.read s kind).1=0:=by
  unfold Lex.read
  split
  · exact Lex.number_neg s
  · exact Lex.name_neg s kind
theorem Lex.rvalue_j1 (lo hi n e:Int)(k:Nat)(hn:e≠0→n=0):complineref17_Value.j1 (k+1) lo hi n e=some (Lex.fin lo hi (n,e)):=by
  simp only [complineref17_Value.j1]
  unfold Lex.fin
  by_cases h:e=0
  · subst h
    rw [if_pos rfl]
    by_cases h1:n < lo
    · rw [if_pos h1,if_pos ⟨rfl,.inl h1⟩]
    · rw [if_neg h1]
      by_cases h2:hi < n
      · rw [if_pos h2,if_pos ⟨rfl,.inr h2⟩]
      · rw [if_neg h2,if_neg (by simp; omega)]
  · rw [if_neg h,if_neg (fun x=>h x.1),hn h]
theorem Lex.rvalue_f (s:ByteArray)(kind:Int)(k:Nat)(hk:60≤k):complineref17_Value.f k s kind=some (Lex.value s kind):=by
  obtain ⟨k,rfl⟩:∃ j,k=j+1+1:=⟨k - 2,by omega⟩
  unfold complineref17_Value.f Lex.value
  rw [Lex.rlimits_f]
  simp only [Option.bind_some]
  by_cases h:(Lex.limits kind).2.2=0
  · rw [if_pos h,if_neg (show ¬ ((Lex.limits kind).2.2≠0) by omega)]
    have hrn:=Lex.read_neg s kind
    by_cases h0:s.size=0
    · rw [if_neg (show ¬ (s.size:Int) > 0 by omega)]
      simp only [complineref17_Value.j0]
      rw [if_neg (by simp),Lex.rname_f _ _ _ (by omega)]
      have hr:Lex.read s kind=Lex.name s kind:=by unfold Lex.read; rw [if_neg (by simp [bt,h0])]
      rw [hr] at hrn ⊢
      simp only [Option.bind_some]
      exact Lex.rvalue_j1 _ _ _ _ _ hrn
    · have hi:0 < s.size:=by omega
      have hbt:bt s 0=((s[0]'hi).toNat:Int):=Lex.bt_eq s 0 hi
      rw [if_pos (show (s.size:Int) > 0 by omega),if_pos (show (0:Int) < s.size by omega),hbt,Lex.rdigit_f]
      simp only [Option.bind_some,complineref17_Value.j0]
      cases hd:Lex.dig (s[0]'hi)
      · have hn:¬ (48≤(s[0]'hi).toNat∧(s[0]'hi).toNat≤57):=by simpa [Lex.dig] using hd
        have hr:Lex.read s kind=Lex.name s kind:=by unfold Lex.read; rw [if_neg (by rw [hbt]; omega)]
        rw [if_neg (by simp),Lex.rname_f _ _ _ (by omega)]
        rw [hr] at hrn ⊢
        simp only [Option.bind_some]
        exact Lex.rvalue_j1 _ _ _ _ _ hrn
      · have hn:48≤(s[0]'hi).toNat∧(s[0]'hi).toNat≤57:=by simpa [Lex.dig] using hd
        have hr:Lex.read s kind=Lex.number s:=by unfold Lex.read; rw [if_pos (by rw [hbt]; omega)]
        rw [if_pos rfl,Lex.rnumber_f _ _ (by omega)]
        rw [hr] at hrn ⊢
        simp only [Option.bind_some]
        exact Lex.rvalue_j1 _ _ _ _ _ hrn
  · rw [if_neg h,if_pos h]
/-! The reference's lex, in closed form. -/
def Lex.five (L:List ByteArray):List ByteArray × Int:=if L.length=5 then (L,0) else ([],2)
theorem Lex.blank_known {c:UInt8}(h:Lex.blankB c=true):Lex.knownI c.toNat=true:=by
  simp only [Lex.blankB,Lex.blankN,Bool.or_eq_true,beq_iff_eq] at h
  unfold Lex.knownI
  rcases h with h | h <;> (rw [h]; decide)
theorem Lex.rfields_step (s : ByteArray) (hs : s.size ≤ 256) (k i : Nat) (l : List ByteArray) (w : ByteArray) (hi : i < s.size) (hw : w.size ≤ i) (hl : l.length ≤ i) :
    complineref17_Fields.l0 (k+1) s l w i =
      if Lex.blankB (s[i]'hi) then (if w.data.toList=[] then complineref17_Fields.l0 k s l ⟨#[]⟩ ((i+1:Nat):Int) else complineref17_Fields.l0 k s (l ++ [w]) ⟨#[]⟩ ((i+1:Nat):Int))
      else if Lex.knownI (s[i]'hi).toNat then complineref17_Fields.l0 k s l (w ++ s.extract i (i+1)) ((i+1:Nat):Int) else some ([],2):=by
  obtain ⟨c,hc⟩:∃ c,(s[i]'hi)=c:=⟨_,rfl⟩
  have hbt:=Lex.bt_eq s i hi
  rw [hc] at hbt ⊢
  have hw1:wrap64 ((i:Int)+1)=((i+1:Nat):Int):=by rw [Lex.w64 (by omega) (by omega)]; omega
  have hx:(s.extract i (i+1)).size=1:=by
    have:=congrArg List.length (Lex.one_data s i hi)
    rw [Lex.len] at this
    simpa using this
  have hn1:((i:Int)).toNat=i:=by omega
  have hn2:(((i+1:Nat):Int)).toNat=i+1:=by omega
  simp only [complineref17_Fields.l0]
  rw [if_pos (show (i:Int) < (s.size:Int) by omega),if_pos (show (0:Int)≤i by omega)]
  simp only [hw1,hbt,hn1,hn2,hx]
  have a1:(i:Int)≤((i+1:Nat):Int):=by omega
  have a2:((i+1:Nat):Int)≤(s.size:Int):=by omega
  have a3:w.size+1≤9223372036854775807:=by omega
  have a4:l.length < 8796093022208:=by omega
  simp only [a1,a2,a3,a4,if_true,Lex.toList_nil]
  unfold complineref17_blank.f complineref17_digit.f complineref17_letter.f Lex.blankB Lex.blankN Lex.knownI
  obtain ⟨n,hn⟩:∃ n,c.toNat=n:=⟨_,rfl⟩
  rw [hn]
  by_cases h1:n=32
  · subst h1; simp
  by_cases h2:n=9
  · subst h2; simp
  have g1:¬ (n:Int)=32:=by omega
  have g2:((n:Int) == 9)=false:=by simp; omega
  have g3:(n == 32)=false:=by simpa using h1
  have g4:(n == 9)=false:=by simpa using h2
  have g5:¬ (n:Int)=9:=by omega
  simp only [g1,g2,g3,g4,g5,if_false,Option.bind_some,Bool.or_false,Bool.false_eq_true,decide_false,Bool.false_or]
  by_cases h3:(n:Int)≥48
  · by_cases h4:(n:Int)≤57
    · simp [h3,h4]
    · by_cases h5:(n:Int)≥97
      · have h6:(n:Int)≥65:=by omega
        by_cases h7:(n:Int)≤122
        · simp [h3,h4,h5,h7]
        · have h8:¬ (n:Int)≤90:=by omega
          have q1:¬ (n:Int)=42:=by omega
          have q2:¬ (n:Int)=44:=by omega
          have q3:¬ (n:Int)=45:=by omega
          have q4:¬ (n:Int)=47:=by omega
          simp [h3,h4,h5,h6,h7,h8,q1,q2,q3,q4]
      · by_cases h6:(n:Int)≥65
        · by_cases h8:(n:Int)≤90
          · simp [h3,h4,h5,h6,h8]
          · have q1:¬ (n:Int)=42:=by omega
            have q2:¬ (n:Int)=44:=by omega
            have q3:¬ (n:Int)=45:=by omega
            have q4:¬ (n:Int)=47:=by omega
            simp [h3,h4,h5,h6,h8,q1,q2,q3,q4]
        · have q1:¬ (n:Int)=42:=by omega
          have q2:¬ (n:Int)=44:=by omega
          have q3:¬ (n:Int)=45:=by omega
          have q4:¬ (n:Int)=47:=by omega
          simp [h3,h4,h5,h6,q1,q2,q3,q4]
  · have h5:¬ (n:Int)≥97:=by omega
    have h6:¬ (n:Int)≥65:=by omega
    by_cases q1:(n:Int)=42
    · simp [h3,h5,h6,q1]
    by_cases q2:(n:Int)=44
    · simp [h3,h5,h6,q1,q2]
    by_cases q3:(n:Int)=45
    · simp [h3,h5,h6,q1,q2,q3]
    by_cases q4:(n:Int)=47
    · simp [h3,h5,h6,q1,q2,q3,q4]
    simp [h3,h5,h6,q1,q2,q3,q4]
theorem Lex.rfields_l (s : ByteArray) (hs : s.size ≤ 256) (d : Nat) : ∀ (k i : Nat) (l : List ByteArray) (w : ByteArray), i + d = s.size → d < k → w.size ≤ i → l.length ≤ i →
    complineref17_Fields.l0 k s l w i=some (if Lex.knownAll (s.data.toList.drop i) then Lex.five (l ++ (Lex.words (s.data.toList.drop i) w.data.toList).map Lex.mk) else ([],2)):=by
  induction d with
  | zero=>
    intro k i l w h1 hk hw hl
    obtain ⟨k,rfl⟩:∃ j,k=j+1:=⟨k - 1,by omega⟩
    have hi:i=s.size:=by omega
    rw [List.drop_of_length_le (by rw [Lex.len]; omega)]
    simp only [complineref17_Fields.l0]
    rw [if_neg (by omega)]
    simp only [Lex.toList_nil,Lex.words,Lex.knownAll,List.all_nil,if_true]
    by_cases hn:w.data.toList=[]
    · rw [if_pos hn,if_pos hn]
      simp only [List.map_nil,List.append_nil,Lex.five]
      by_cases h5:l.length=5
      · rw [if_pos (by omega),if_pos h5]
      · rw [if_neg (by omega),if_neg h5]
    · rw [if_neg hn,if_neg hn,if_pos (by omega)]
      simp only [List.map_cons,List.map_nil,Lex.mk_of,Option.bind_some,Lex.five]
      by_cases h5:(l ++ [w]).length=5
      · rw [if_pos (by omega),if_pos h5]
      · rw [if_neg (by omega),if_neg h5]
  | succ d ih=>
    intro k i l w h1 hk hw hl
    obtain ⟨k,rfl⟩:∃ j,k=j+1:=⟨k - 1,by omega⟩
    have hi:i < s.size:=by omega
    rw [Lex.rfields_step s hs k i l w hi hw hl,Lex.knownAll_drop s i hi]
    have hdr:s.data.toList.drop i=(s[i]'hi) :: s.data.toList.drop (i+1):=by rw [List.drop_eq_getElem_cons (by rw [Lex.len]; exact hi)]; rfl
    rw [hdr]
    simp only [Lex.words]
    cases hb:Lex.blankB (s[i]'hi)
    · simp only [Bool.false_eq_true,if_false]
      cases hkn:Lex.knownI (s[i]'hi).toNat
      · simp
      · simp only [if_true,Bool.true_and]
        have hx:(s.extract i (i+1)).size=1:=by
          have:=congrArg List.length (Lex.one_data s i hi)
          rw [Lex.len] at this
          simpa using this
        rw [ih k (i+1) l (w ++ s.extract i (i+1)) (by omega) (by omega) (by rw [ByteArray.size_append]; omega) (by omega),Lex.append_data,Lex.one_data s i hi]
    · rw [Lex.blank_known hb]
      simp only [if_true,Bool.true_and]
      by_cases hn:w.data.toList=[]
      · rw [if_pos hn,if_pos hn,ih k (i+1) l ⟨#[]⟩ (by omega) (by omega) (by simp [ByteArray.size]) (by omega)]
      · rw [if_neg hn,if_neg hn,ih k (i+1) (l ++ [w]) ⟨#[]⟩ (by omega) (by omega) (by simp [ByteArray.size]) (by simp; omega)]
        simp [Lex.mk_of]
theorem Lex.rfields_f (s:ByteArray)(k:Nat)(hk:300≤k):complineref17_Fields.f k s=some (Lex.fields s):=by
  unfold complineref17_Fields.f
  by_cases h:256 < s.size
  · rw [if_pos (by omega)]; unfold Lex.fields; rw [if_pos h]
  · rw [if_neg (by omega)]
    have:=Lex.rfields_l s (by omega) s.size k 0 [] ⟨#[]⟩ (by omega) (by omega) (by simp [ByteArray.size]) (by simp)
    rw [show ((0:Nat):Int)=0 from rfl] at this
    rw [this,Lex.fields_eq s (by omega)]
    simp only [List.drop_zero,List.nil_append,Lex.fieldsL]
    cases hk:Lex.knownAll s.data.toList
    · simp
    · simp only [if_true,Bool.true_eq_false,if_false,Lex.five,List.length_map]
      split
      · rename_i h5; rw [if_neg (by simpa using h5)]
      · simp
/-! The document's Split, Item, with and Parse, by the same words. -/
theorem sp_snoc_eq (c:UInt8)(l:List UInt8):sp c (l ++ [c])=sp c l ++ [[]]:=sp_append c l []
theorem sp_snoc_ne (c x:UInt8)(hx:x≠c):∀ l:List UInt8,∃ A B,sp c l=A ++ [B]∧sp c (l ++ [x])=A ++ [B ++ [x]]
  | []=>⟨[],[],rfl,by simp [sp,hx,addHead]⟩
  | y :: l=>by
    obtain ⟨A,B,h1,h2⟩ :=sp_snoc_ne c x hx l
    have e1:∀ l,sp c (y :: l)=if y=c then [] :: sp c l else addHead y (sp c l):=fun l=>rfl
    rw [List.cons_append,e1,e1]
    by_cases hy:y=c
    · rw [if_pos hy,if_pos hy]
      exact ⟨[] :: A,B,by rw [h1]; rfl,by rw [h2]; rfl⟩
    · rw [if_neg hy,if_neg hy,h1,h2]
      cases A with
      | nil=>exact ⟨[],y :: B,rfl,rfl⟩
      | cons a A=>exact ⟨(y :: a) :: A,B,rfl,rfl⟩
theorem sp_len (c:UInt8):∀ l:List UInt8,(sp c l).length≤l.length+1
  | []=>by simp [sp]
  | x :: l=>by
    have ih:=sp_len c l
    unfold sp
    split
    · simp; omega
    · unfold addHead
      split
      · simp
      · rename_i h; rw [h] at ih; simp at ih ⊢; omega
theorem sp_mem (c:UInt8):∀ (l p:List UInt8),p ∈ sp c l→p.length≤l.length
  | [],p,h=>by simp [sp] at h; simp [h]
  | x :: l,p,h=>by
    unfold sp at h
    split at h
    · rcases List.mem_cons.1 h with rfl | h
      · simp
      · have:=sp_mem c l p h; simp; omega
    · unfold addHead at h
      split at h
      · simp at h; simp [h]
      · rename_i a t ht
        rcases List.mem_cons.1 h with rfl | h
        · have:=sp_mem c l a (by rw [ht]; exact List.mem_cons_self ..); simp; omega
        · have:=sp_mem c l p (by rw [ht]; exact List.mem_cons_of_mem _ h); simp; omega
theorem rsplit_l (s : ByteArray) (c : UInt8) (hs : s.size ≤ 1000000) (d : Nat) : ∀ (k i : Nat), i + d = s.size → d < k →
    complineref18_Split.l0 k s (c.toNat:Int) ((sp c (s.data.toList.take i)).map L2B) (i:Int)=some (Fld.parts c s):=by
  induction d with
  | zero=>
    intro k i h hk
    obtain ⟨k,rfl⟩:∃ j,k=j+1:=⟨k - 1,by omega⟩
    rw [complineref18_Split.l0,if_neg (by omega),List.take_of_length_le (by rw [size_list]; omega),← parts_sp]
  | succ d ih=>
    intro k i h hk
    obtain ⟨k,rfl⟩:∃ j,k=j+1:=⟨k - 1,by omega⟩
    have hi:i < s.size:=by omega
    have hts:s.data.toList.take (i+1)=s.data.toList.take i ++ [s[i]'hi]:=by
      rw [List.take_succ_eq_append_getElem (by rw [size_list]; exact hi)]; rfl
    have hw:wrap64 ((i:Int)+1)=((i+1:Nat):Int):=by unfold wrap64; omega
    have hlen:=sp_len c (s.data.toList.take i)
    have htl:(s.data.toList.take i).length=i:=by rw [List.length_take,size_list]; omega
    rw [htl] at hlen
    have ih':=ih k (i+1) (by omega) (by omega)
    rw [complineref18_Split.l0,if_pos (by omega),if_pos (by omega),hw,show bt s (i:Int)=((s[i]'hi).toNat:Int) from (bt_at s i (by simpa using hi)).symm]
    by_cases hc:s[i]'hi=c
    · rw [hts,hc,sp_snoc_eq,List.map_append] at ih'
      rw [if_pos (by rw [hc]),if_pos (by rw [List.length_map]; omega)]
      exact ih'
    · obtain ⟨A,B,h1,h2⟩ :=sp_snoc_ne c (s[i]'hi) hc (s.data.toList.take i)
      have hB:B.length≤i:=by
        have:=sp_mem c (s.data.toList.take i) B (by rw [h1]; simp)
        rw [htl] at this
        exact this
      rw [if_neg (fun e=>hc (UInt8.toNat_inj.1 (by omega)))]
      rw [hts,h2] at ih'
      rw [h1]
      have hAl:((A ++ [B]).map L2B).length=A.length+1:=by simp
      have hA9:A.length+1≤i+1:=by rw [h1] at hlen; simpa using hlen
      have hwl:wrap64 ((((A ++ [B]).map L2B).length:Int) - 1)=(A.length:Int):=by rw [hAl]; unfold wrap64; omega
      rw [hwl,if_pos (by omega),if_pos (by rw [hAl]; omega),if_pos (by omega),if_pos (by omega)]
      have hrd:rdOf ByteArray.empty ((A ++ [B]).map L2B) (A.length:Int)=L2B B:=by
        unfold rdOf
        rw [Int.toNat_natCast,List.map_append,List.getD_eq_getElem?_getD,List.getElem?_append_right (by simp)]
        simp
      have hex:s.extract (i:Int).toNat ((i+1:Nat):Int).toNat=L2B [s[i]'hi]:=by
        apply B_ext
        rw [Int.toNat_natCast,Int.toNat_natCast,L2B_list,ByteArray.data_extract]
        have e:=Lex.one_data s i hi
        rw [ByteArray.data_extract] at e
        exact e
      have hs1:(L2B B).size=B.length:=by show B.toArray.size=_; simp
      have hs2:(L2B [s[i]'hi]).size=1:=rfl
      rw [hrd,hex,if_pos (by omega),Int.toNat_natCast]
      have hset:((A ++ [B]).map L2B).set A.length (L2B B ++ L2B [s[i]'hi])=(A ++ [B ++ [s[i]'hi]]).map L2B:=by
        have e:L2B B ++ L2B [s[i]'hi]=L2B (B ++ [s[i]'hi]):=by apply B_ext; rw [ByteArray.data_append]; simp [L2B]
        rw [e,List.map_append,List.map_append]
        have:A.length=(A.map L2B).length:=by simp
        rw [this,List.set_append_right _ _ (Nat.le_refl _)]
        simp
      rw [hset]
      exact ih'
theorem rsplit_f (s:ByteArray)(c:UInt8)(hs:s.size≤1000000)(k:Nat)(hk:s.size < k):complineref18_Split.f k s (c.toNat:Int)=some (Fld.parts c s):=by
  have:=rsplit_l s c hs s.size k 0 (by omega) hk
  exact this
theorem first_mem (c:UInt8):∀ l:List UInt8,c ∈ l→∃ a b,l=a ++ c :: b∧c ∉ a
  | [],h=>by cases h
  | x :: l,h=>by
    by_cases hx:x=c
    · subst hx; exact ⟨[],l,rfl,by simp⟩
    · obtain ⟨a,b,e,ha⟩ :=first_mem c l (by rcases List.mem_cons.1 h with e | h; exact absurd e.symm hx; exact h)
      exact ⟨x :: a,b,by rw [e]; rfl,by simp; exact ⟨fun e=>hx e.symm,ha⟩⟩
/-- An item's form, by its parts. -/
theorem parts47 (s:ByteArray):(∃ A B:ByteArray,A.size≤s.size∧B.size≤s.size∧Fld.cutL s=(A,B,true)∧Fld.parts 47 s=A :: Fld.parts 47 B)∨(Fld.cutL s=(s,⟨#[]⟩,false)∧Fld.parts 47 s=[s]):=by
  by_cases h:(47:UInt8) ∈ s.data.toList
  · left
    obtain ⟨a,b,hl,ha⟩ :=first_mem 47 _ h
    have hsz:=size_list s
    refine ⟨L2B a,L2B b,?_,?_,?_,?_⟩
    · have:a.length≤s.size:=by rw [hl] at hsz; simp at hsz; omega
      show a.toArray.size≤_; simpa using this
    · have:b.length≤s.size:=by rw [hl] at hsz; simp at hsz; omega
      show b.toArray.size≤_; simpa using this
    · unfold Fld.cutL; rw [hl,cut_app _ _ ha]; rfl
    · rw [parts_sp,hl,sp_append,sp_none 47 _ ha,List.map_append,parts_sp 47 (L2B b),L2B_list]; rfl
  · right
    refine ⟨?_,?_⟩
    · unfold Fld.cutL; rw [cut_none _ h]
    · rw [parts_sp,sp_none 47 _ h]; exact congrArg (fun z=>[z]) (L2B_of s)
/-- What an item says, as the document tells it. -/
def ritem (x:Int × Int × Int × Int):Int × Int × Int × Int:=if x.2.2.2≠0 then (0,0,0,x.2.2.2) else x
theorem ritem_j2 (t : List ByteArray) (B : ByteArray) (C : Bool) (F T : Int) (k : Nat) (hk : 30 ≤ k)
    (ht:(C=true∧∃ A,t=[A,B])∨(C=false∧∃ A,t=[A])) :
    complineref18_Item.j2 k t F T 1=some (if (Fld.stepP B C).2≠0 then (0,0,0,(Fld.stepP B C).2) else (F,T,(Fld.stepP B C).1,0)):=by
  obtain ⟨k,rfl⟩:∃ j,k=j+1:=⟨k - 1,by omega⟩
  rw [complineref18_Item.j2]
  rcases ht with ⟨rfl,A,rfl⟩ | ⟨rfl,A,rfl⟩
  · rw [if_pos (by simp),if_pos (by simp),show rdOf ByteArray.empty [A,B] 1=B from rfl,Lex.rnumber_f B k (by omega)]
    simp only [Option.bind_some]
    by_cases h1:(Lex.number B).2=0
    · rw [if_pos h1]
      by_cases h2:(Lex.number B).1=0
      · have e:Fld.stepP B true=((Lex.number B).1,1):=by unfold Fld.stepP; rw [if_pos rfl,if_pos ⟨h1,h2⟩]
        rw [if_pos h2,e]; rfl
      · have e:Fld.stepP B true=((Lex.number B).1,0):=by unfold Fld.stepP; rw [if_pos rfl,if_neg (fun h=>h2 h.2),h1]
        rw [if_neg h2,e]; rfl
    · have e:Fld.stepP B true=((Lex.number B).1,(Lex.number B).2):=by unfold Fld.stepP; rw [if_pos rfl,if_neg (fun h=>h1 h.1)]
      rw [if_neg h1,e,if_pos h1]
  · have e:Fld.stepP B false=(1,0):=rfl
    rw [if_neg (by simp),e]; rfl
theorem ritem_j1 (kind : Int) (hk : (Lex.limits kind).2.2 = 0) (t E : List ByteArray) (A B : ByteArray) (C : Bool) (k : Nat) (hk2 : 100 ≤ k)
    (ht:(C=true∧t=[A,B])∨(C=false∧t=[A])) (hE:E.length=1∨E.length=2) :
    complineref18_Item.j1 k kind t E false=some (if (Fld.valuesP A E kind).2.2≠0 then (0,0,0,(Fld.valuesP A E kind).2.2) else if (Fld.stepP B C).2≠0 then (0,0,0,(Fld.stepP B C).2) else ((Fld.valuesP A E kind).1,(Fld.valuesP A E kind).2.1,(Fld.stepP B C).1,0)):=by
  obtain ⟨k,rfl⟩:∃ j,k=j+1:=⟨k - 1,by omega⟩
  have ht2:(C=true∧∃ A,t=[A,B])∨(C=false∧∃ A,t=[A]):=by
    rcases ht with ⟨h,e⟩ | ⟨h,e⟩
    · exact .inl ⟨h,A,e⟩
    · exact .inr ⟨h,A,e⟩
  have htl:0 < (t.length:Int):=by rcases ht with ⟨-,e⟩ | ⟨-,e⟩ <;> rw [e] <;> simp
  have hrd:rdOf ByteArray.empty t 0=A:=by rcases ht with ⟨-,e⟩ | ⟨-,e⟩ <;> rw [e] <;> rfl
  have J:=fun F T=>ritem_j2 t B C F T k (by omega) ht2
  rw [complineref18_Item.j1,if_neg (by decide),Lex.rlimits_f]
  simp only [Option.bind_some]
  rw [if_pos hk,if_pos htl,hrd]
  have fin:∀ F T:Int,Fld.valuesP A E kind=(F,T,0)→complineref18_Item.j2 k t F T 1=some (if (Fld.valuesP A E kind).2.2≠0 then (0,0,0,(Fld.valuesP A E kind).2.2) else if (Fld.stepP B C).2≠0 then (0,0,0,(Fld.stepP B C).2) else ((Fld.valuesP A E kind).1,(Fld.valuesP A E kind).2.1,(Fld.stepP B C).1,0)):=by
    intro F T e
    rw [e,J]; rfl
  have bad:∀ F T e:Int,e≠0→Fld.valuesP A E kind=(F,T,e)→some ((0:Int),(0:Int),(0:Int),e)=some (if (Fld.valuesP A E kind).2.2≠0 then (0,0,0,(Fld.valuesP A E kind).2.2) else if (Fld.stepP B C).2≠0 then (0,0,0,(Fld.stepP B C).2) else ((Fld.valuesP A E kind).1,(Fld.valuesP A E kind).2.1,(Fld.stepP B C).1,0)):=by
    intro F T e he h
    rw [h,if_pos he]
  by_cases hs:A.toList=[42]
  · rw [if_pos hs]
    exact fin _ _ (by unfold Fld.valuesP; rw [if_pos hs])
  · rw [if_neg hs]
    rcases hE with h | h
    · obtain ⟨x,rfl⟩ :=List.length_eq_one_iff.1 h
      have hv:Fld.valuesP A [x] kind=((Lex.value x kind).1,(Lex.value x kind).1,(Lex.value x kind).2):=by unfold Fld.valuesP; rw [if_neg hs]
      rw [if_pos (by simp),show rdOf ByteArray.empty [x] 0=x from rfl,Lex.rvalue_f x kind k (by omega)]
      simp only [Option.bind_some]
      by_cases h1:(Lex.value x kind).2=0
      · rw [if_pos h1,if_neg (by simp),if_neg (by omega)]
        exact fin _ _ (by rw [hv,h1])
      · rw [if_neg h1]
        exact bad _ _ _ h1 hv
    · obtain ⟨x, y, rfl⟩ : ∃ x y, E = [x, y] := by
        match E,h with
        | [x,y],_=>exact ⟨x,y,rfl⟩
      have hv:Fld.valuesP A [x,y] kind=((Lex.value x kind).1,(Lex.value y kind).1,if (Lex.value x kind).2≠0 then (Lex.value x kind).2 else if (Lex.value y kind).2≠0 then (Lex.value y kind).2 else if (Lex.value y kind).1 < (Lex.value x kind).1 then 12 else 0):=by unfold Fld.valuesP; rw [if_neg hs]
      rw [if_pos (by simp),show rdOf ByteArray.empty [x,y] 0=x from rfl,Lex.rvalue_f x kind k (by omega)]
      simp only [Option.bind_some]
      by_cases h1:(Lex.value x kind).2=0
      · rw [if_neg (by simp [h1])] at hv
        rw [if_pos h1,if_pos (by simp),if_pos (by simp),show rdOf ByteArray.empty [x,y] 1=y from rfl,Lex.rvalue_f y kind k (by omega)]
        simp only [Option.bind_some]
        by_cases h2:(Lex.value y kind).2=0
        · rw [if_neg (by simp [h2])] at hv
          rw [if_pos h2]
          by_cases h3:(Lex.value y kind).1 < (Lex.value x kind).1
          · rw [if_pos h3] at hv ⊢
            exact bad _ _ _ (by decide) hv
          · rw [if_neg h3] at hv ⊢
            exact fin _ _ hv
        · rw [if_pos h2] at hv
          rw [if_neg h2]
          exact bad _ _ _ h2 hv
      · rw [if_pos h1] at hv
        rw [if_neg h1]
        exact bad _ _ _ h1 hv
theorem ritem_f (s : ByteArray) (kind : Int) (hk : (Lex.limits kind).2.2 = 0) (hs : s.size ≤ 1000000) (k : Nat) (hk2 : s.size + 200 ≤ k) :
    complineref18_Item.f k s kind=some (ritem (Fld.itemP s kind)):=by
  unfold complineref18_Item.f
  rw [show (47:Int)=(((47:UInt8).toNat:Nat):Int) from rfl,rsplit_f s 47 hs k (by omega),show (45:Int)=(((45:UInt8).toNat:Nat):Int) from rfl]
  simp only [Option.bind_some]
  obtain ⟨j,rfl⟩:∃ j,k=j+1:=⟨k - 1,by omega⟩
  have key : ∀ (A B : ByteArray) (C : Bool), Fld.cutL s = (A, B, C) → A.size ≤ s.size → rdOf ByteArray.empty (Fld.parts 47 s) 0 = A → 0 < (Fld.parts 47 s).length →
      ((Fld.parts 47 s).length > 2↔Lib.contains B.data.toList [47]=true)→
      (¬ (Fld.parts 47 s).length > 2→(C=true∧Fld.parts 47 s=[A,B])∨(C=false∧Fld.parts 47 s=[A]))→
      (if 0 < ((Fld.parts 47 s).length:Int) then ((complineref18_Split.f (j+1) (rdOf ByteArray.empty (Fld.parts 47 s) 0) (((45:UInt8).toNat:Nat):Int)).bind fun t155=>(if ((Fld.parts 47 s).length:Int) > 2 then (complineref18_Item.j0 (j+1) kind (Fld.parts 47 s) t155 true) else (complineref18_Item.j0 (j+1) kind (Fld.parts 47 s) t155 (decide ((t155.length:Int) > 2))))) else (none))=some (ritem (Fld.itemP s kind)):=by
    intro A B C hcut hA hrd hpos hgt hle
    rw [if_pos (by omega),hrd,rsplit_f A 45 (by omega) (j+1) (by omega)]
    simp only [Option.bind_some]
    have hne:=parts_ne 45 A
    have hEl:0 < (Fld.parts 45 A).length:=List.length_pos_iff.2 hne
    have hsp:Fld.splitE s=if Lib.contains B.data.toList [47]=true∨2 < (Fld.parts 45 A).length then 2 else if C=true∧¬ A.toList=[42]∧(Fld.parts 45 A).length < 2 then 2 else 0:=by unfold Fld.splitE; rw [hcut]
    have bad:Fld.splitE s=2→some ((0:Int),(0:Int),(0:Int),(2:Int))=some (ritem (Fld.itemP s kind)):=by
      intro e
      unfold ritem Fld.itemP
      rw [if_pos (show Fld.splitE s≠0 by rw [e]; decide)]
      simp [e]
    have J0:∀ x,complineref18_Item.j0 (j+1) kind (Fld.parts 47 s) (Fld.parts 45 A) x=if x=true then (some (0,0,0,2)) else (if ((Fld.parts 47 s).length:Int)=2 then (if 0 < ((Fld.parts 47 s).length:Int) then (if (rdOf ByteArray.empty (Fld.parts 47 s) 0).toList=([42]:List UInt8) then (complineref18_Item.j1 j kind (Fld.parts 47 s) (Fld.parts 45 A) false) else (complineref18_Item.j1 j kind (Fld.parts 47 s) (Fld.parts 45 A) (decide (((Fld.parts 45 A).length:Int) < 2)))) else (none)) else (complineref18_Item.j1 j kind (Fld.parts 47 s) (Fld.parts 45 A) false)):=fun x=>by rw [complineref18_Item.j0]
    by_cases h1:(Fld.parts 47 s).length > 2
    · rw [if_pos (by omega),J0,if_pos rfl]
      exact bad (by rw [hsp,if_pos (.inl (hgt.1 h1))])
    rw [if_neg (by omega),J0]
    by_cases h2:2 < (Fld.parts 45 A).length
    · rw [decide_eq_true (by omega),if_pos rfl]
      exact bad (by rw [hsp,if_pos (.inr h2)])
    rw [decide_eq_false (by omega),if_neg (by decide),hrd]
    rw [if_neg (by rintro (h | h); exact h1 (hgt.2 h); exact h2 h)] at hsp
    have good:Fld.splitE s=0→complineref18_Item.j1 j kind (Fld.parts 47 s) (Fld.parts 45 A) false=some (ritem (Fld.itemP s kind)):=by
      intro e
      rw [ritem_j1 kind hk _ _ A B C j (by omega) (hle h1) (by omega)]
      have hi:Fld.itemP s kind=if (Fld.valuesP A (Fld.parts 45 A) kind).2.2≠0 then (0,0,1,(Fld.valuesP A (Fld.parts 45 A) kind).2.2) else if (Fld.stepP B C).2≠0 then (0,0,1,(Fld.stepP B C).2) else ((Fld.valuesP A (Fld.parts 45 A) kind).1,(Fld.valuesP A (Fld.parts 45 A) kind).2.1,(Fld.stepP B C).1,0):=by
        unfold Fld.itemP
        rw [if_neg (show ¬ Fld.splitE s≠0 by rw [e]; decide),hcut]
      clear bad J0
      generalize Fld.valuesP A (Fld.parts 45 A) kind=V at hi ⊢
      generalize Fld.stepP B C=T at hi ⊢
      unfold ritem
      rw [hi]
      by_cases q1:V.2.2=0 <;> by_cases q2:T.2=0 <;> simp [q1,q2]
    rcases hle h1 with ⟨rfl,hp⟩ | ⟨rfl,hp⟩
    · have hl:(Fld.parts 47 s).length=2:=by rw [hp]; rfl
      rw [if_pos (by omega),if_pos (by omega)]
      by_cases h3:A.toList=[42]
      · rw [if_pos h3]
        exact good (by rw [hsp,if_neg (fun h=>h.2.1 h3)])
      · rw [if_neg h3]
        by_cases h4:(Fld.parts 45 A).length < 2
        · obtain ⟨j,rfl⟩:∃ i,j=i+1:=⟨j - 1,by omega⟩
          rw [decide_eq_true (by omega),complineref18_Item.j1,if_pos rfl]
          exact bad (by rw [hsp,if_pos ⟨rfl,h3,h4⟩])
        · rw [decide_eq_false (by omega)]
          exact good (by rw [hsp,if_neg (fun h=>h4 h.2.2)])
    · have hl:(Fld.parts 47 s).length=1:=by rw [hp]; rfl
      rw [if_neg (by omega)]
      exact good (by rw [hsp,if_neg (fun h=>by cases h.1)])
  rcases parts47 s with ⟨A,B,hA,hB,hcut,hp⟩ | ⟨hcut,hp⟩
  · have hBne:=parts_ne 47 B
    have hBl:0 < (Fld.parts 47 B).length:=List.length_pos_iff.2 hBne
    refine key A B true hcut hA (by rw [hp]; rfl) (by rw [hp]; simp) ?_ ?_
    · rw [contains_iff,hp,List.length_cons]
      constructor
      · intro h
        by_cases hm:(47:UInt8) ∈ B.data.toList
        · exact hm
        · rw [parts_sp,sp_none 47 _ hm] at h; simp at h
      · intro hm
        obtain ⟨a,b,e,ha⟩ :=first_mem 47 _ hm
        rw [parts_sp,e,sp_append,sp_none 47 _ ha]
        have:=List.length_pos_iff.2 (sp_ne 47 b)
        simp; omega
    · intro h
      left
      refine ⟨rfl,?_⟩
      by_cases hm:(47:UInt8) ∈ B.data.toList
      · exfalso
        apply h
        obtain ⟨a,b,e,ha⟩ :=first_mem 47 _ hm
        rw [hp,parts_sp,e,sp_append,sp_none 47 _ ha]
        have:=List.length_pos_iff.2 (sp_ne 47 b)
        simp; omega
      · rw [hp,parts_sp 47 B,sp_none 47 _ hm]
        show [A,L2B B.data.toList]=_
        rw [L2B_of]
  · refine key s ⟨#[]⟩ false hcut (Nat.le_refl _) (by rw [hp]; rfl) (by rw [hp]; simp) ?_ (fun _=>.inr ⟨rfl,hp⟩)
    rw [hp]
    constructor
    · intro h; simp at h
    · intro h; rw [contains_iff] at h; exact absurd h (by simp)
theorem Ref_half (x:Int)(h:InU x):IntKind.u64.wrap (Int.tdiv x 2)=((x.toNat / 2:Nat):Int):=by
  obtain ⟨n,rfl,hn⟩ :=nat_of x h
  rw [u64w,Int.toNat_natCast]
  have:Int.tdiv (n:Int) 2=((n / 2:Nat):Int):=by rw [Int.tdiv_eq_ediv_of_nonneg (by omega)]; omega
  rw [this]
  rw [show (2:Nat) ^ 64=18446744073709551616 by decide] at hn
  omega
theorem Ref_has_l:∀ (d i:Nat)(v:Int)(x:Int)(K:Nat),InU x→(i:Int)+d=v→v≤64→complineref18_Has.l0 (d+1+K) v x (i:Int)=some (bitAt x d)
  | 0,i,v,x,K,hx,hv,h64=>by
    rw [show 0+1+K=K+1 by omega,complineref18_Has.l0,if_neg (by omega)]
    obtain ⟨n,rfl,hn⟩ :=nat_of x hx
    congr 1
    unfold bitAt
    rw [Int.toNat_natCast,Nat.testBit_zero]
    rw [Int.tmod_eq_emod_of_nonneg (by omega)]
    rw [Bool.eq_iff_iff]
    simp only [beq_iff_eq,decide_eq_true_eq]
    omega
  | d+1,i,v,x,K,hx,hv,h64=>by
    have hw:wrap64 ((i:Int)+1)=((i+1:Nat):Int):=by unfold wrap64; omega
    rw [show d+1+1+K=(d+1+K)+1 by omega,complineref18_Has.l0,if_pos (by omega),Ref_half x hx,hw]
    have hx2:InU ((x.toNat / 2:Nat):Int):=by unfold InU at hx ⊢; omega
    rw [Ref_has_l d (i+1) v _ K hx2 (by omega) h64]
    unfold bitAt
    rw [Int.toNat_natCast,Nat.testBit_succ]
theorem Ref_has (b:Int)(s:Bool)(v:Nat)(hb:InU b)(hv:v < 64)(K:Nat):complineref18_Has.f (K+70) b s (v:Int)=some (bitAt b v):=by
  unfold complineref18_Has.f
  rw [if_neg (by omega),decide_eq_false (by omega),complineref18_Has.j0,if_neg (by decide)]
  rw [show K+69=v+1+(K+68 - v) by omega]
  exact Ref_has_l v 0 v b _ hb (by omega) (by omega)
theorem put_keep (n:Nat)(x:Fin 64)(hn:n < 2 ^ 64)(h:n.testBit x.val=true):Fld.put (n:Int) x=(n:Int):=by
  refine eq_of_bits (put_in x (by unfold InU; omega)) (by unfold InU; omega) (fun i _=>?_)
  rw [bit_put x (by unfold InU; omega)]
  by_cases hi:x.val=i
  · subst hi; unfold bitAt; rw [Int.toNat_natCast,h]; rfl
  · rw [decide_eq_false hi,Bool.or_false]
theorem put_new (n:Nat)(x:Fin 64)(hn:n < 2 ^ 64)(h:n.testBit x.val=false):n ||| 2 ^ x.val=n+2 ^ x.val∧n+2 ^ x.val < 2 ^ 64:=by
  have hp:2 ^ x.val < 2 ^ 64:=Nat.pow_lt_pow_right (by decide) x.isLt
  have e:n ||| 2 ^ x.val=n+2 ^ x.val:=by
    have key:∀ (k n:Nat),n.testBit k=false→n ||| 2 ^ k=n+2 ^ k:=by
      intro k n hk
      have h1:n=2 ^ k*(n / 2 ^ k)+n % 2 ^ k:=(Nat.div_add_mod n (2 ^ k)).symm
      have hm:n % 2 ^ k < 2 ^ k:=Nat.mod_lt _ (Nat.pow_pos (by decide))
      have hev:(n / 2 ^ k) % 2=0:=by
        rw [Nat.testBit_eq_decide_div_mod_eq] at hk
        have:=of_decide_eq_false hk
        omega
      have h2:(n / 2 ^ k) ||| 1=n / 2 ^ k+1:=by
        have:=Nat.two_pow_add_eq_or_of_lt (i:=1) (b:=1) (by decide) (n / 2 ^ k / 2)
        rw [show 2 ^ 1*(n / 2 ^ k / 2)=n / 2 ^ k by omega] at this
        exact this.symm
      apply Nat.eq_of_testBit_eq
      intro i
      rw [Nat.testBit_or,Nat.testBit_two_pow]
      have e3:n+2 ^ k=2 ^ k*(n / 2 ^ k+1)+n % 2 ^ k:=by rw [Nat.mul_add,Nat.mul_one]; omega
      rw [e3,Nat.testBit_two_pow_mul_add _ hm]
      conv=>lhs; arg 1; rw [h1,Nat.testBit_two_pow_mul_add _ hm]
      by_cases hi:i < k
      · rw [if_pos hi,if_pos hi,decide_eq_false (by omega),Bool.or_false]
      · rw [if_neg hi,if_neg hi,← h2,Nat.testBit_or]
        congr 1
        rw [show (1:Nat)=2 ^ 0 from rfl,Nat.testBit_two_pow,Bool.eq_iff_iff]
        simp
        omega
    exact key _ _ h
  refine ⟨e,?_⟩
  rw [← e]
  exact Nat.or_lt_two_pow hn hp
theorem rwith_l (v : Nat) (hv : v < 64) (b : Int) (s : Bool) (d : Nat) : ∀ (k i : Nat), i + d = v → d < k →
    complineref18_with.l0 k (v:Int) ((2 ^ i:Nat):Int) (i:Int) b s=some (IntKind.u64.wrap (b+((2 ^ v:Nat):Int)),s):=by
  induction d with
  | zero=>
    intro k i h hk
    obtain ⟨k,rfl⟩:∃ j,k=j+1:=⟨k - 1,by omega⟩
    rw [complineref18_with.l0,if_neg (by omega),show i=v by omega]
  | succ d ih=>
    intro k i h hk
    obtain ⟨k,rfl⟩:∃ j,k=j+1:=⟨k - 1,by omega⟩
    have hw:wrap64 ((i:Int)+1)=((i+1:Nat):Int):=by unfold wrap64; omega
    have h2:IntKind.u64.wrap (2*((2 ^ i:Nat):Int))=((2 ^ (i+1):Nat):Int):=by
      have:=Nat.pow_lt_pow_right (a:=2) (by decide) (show i+1 < 64 by omega)
      rw [u64w]
      rw [show (2:Nat) ^ 64=18446744073709551616 by decide] at this
      rw [Nat.pow_succ] at this ⊢
      omega
    rw [complineref18_with.l0,if_pos (by omega),h2,hw]
    exact ih k (i+1) (by omega) (by omega)
theorem rwith_f (b:Int)(s:Bool)(v:Fin 64)(hb:InU b)(k:Nat)(hk:70≤k):complineref18_with.f k b s ((v.val:Nat):Int)=some (Fld.put b v,s):=by
  obtain ⟨n,rfl,hn⟩ :=nat_of b hb
  unfold complineref18_with.f
  rw [show k=(k - 70)+70 by omega,Ref_has _ s v.val hb v.isLt]
  simp only [Option.bind_some]
  rw [show k - 70+70=k by omega]
  by_cases h:n.testBit v.val=true
  · have h':bitAt (n:Int) v.val=true:=by unfold bitAt; rw [Int.toNat_natCast]; exact h
    rw [if_pos h',put_keep n v hn h]
  · have hf:n.testBit v.val=false:=by simpa using h
    have h':¬ bitAt (n:Int) v.val=true:=by unfold bitAt; rw [Int.toNat_natCast]; exact h
    have e:=rwith_l v.val v.isLt (n:Int) s v.val k 0 (by omega) (by have:=v.isLt; omega)
    obtain ⟨e1,e2⟩ :=put_new n v hn hf
    rw [if_neg h',put_nat n v hn,e1]
    have hw:IntKind.u64.wrap ((n:Int)+((2 ^ v.val:Nat):Int))=((n+2 ^ v.val:Nat):Int):=by
      rw [u64w]
      rw [show (2:Nat) ^ 64=18446744073709551616 by decide] at e2
      generalize 2 ^ v.val=q at e2 ⊢
      omega
    rw [hw] at e
    exact e
/-- The rounds over an item's values. -/
theorem rparse_l1 (s : ByteArray) (kind : Int) (L : List ByteArray) (i F T By : Int) (hk : (Lex.limits kind).2.2 = 0) (hT : T ≤ 59) (hT7 : kind = 4 → T ≤ 7) (hBy : 1 ≤ By) (hBy2 : By ≤ 9999) (r : Option (Int × Bool × Int)) (K : Nat) (f : Nat) :
    ∀ (v b:Int) (k:Nat),InU b→0≤v→v≤20000→(T+1 - v).toNat≤f→(∀ k',K≤k'→complineref18_Parse.l0 k' s kind L (wrap64 (i+1)) ((Fld.vals kind T By f v).foldl Fld.put b) false=r)→K+2*f+80≤k→
      complineref18_Parse.l1 k s kind L i v b false F T By=r:=by
  induction f with
  | zero=>
    intro v b k hb h0 hv hf hr hk2
    obtain ⟨k,rfl⟩:∃ j,k=j+1:=⟨k - 1,by omega⟩
    rw [complineref18_Parse.l1,if_neg (by omega)]
    exact hr k (by omega)
  | succ f ih=>
    intro v b k hb h0 hv hf hr hk2
    obtain ⟨k,rfl⟩:∃ j,k=j+1+1:=⟨k - 2,by omega⟩
    rw [complineref18_Parse.l1]
    by_cases hle:v≤T
    · rw [if_pos hle]
      have hst:Fld.vals kind T By (f+1) v=Fld.day kind v :: Fld.vals kind T By f (v+By):=by rw [Fld.vals,if_pos hle]
      rw [hst] at hr
      have hw:wrap64 (v+By)=v+By:=by unfold wrap64; omega
      have hd:=day_val kind v h0 (by omega)
      have next:complineref18_Parse.l1 k s kind L i (v+By) (Fld.put b (Fld.day kind v)) false F T By=r:=
        ih (v+By) _ k (put_in _ hb) (by omega) (by omega) (by omega) (fun k' h'=>hr k' h') (by omega)
      have go:∀ x:Int,x=((Fld.day kind v).val:Int)→((complineref18_with.f k b false x).bind fun bt193=>(complineref18_Parse.l1 k s kind L i (wrap64 (v+By)) bt193.1 bt193.2 F T By))=r:=by
        intro x hx
        rw [hx,rwith_f b false (Fld.day kind v) hb k (by omega),hw]
        exact next
      by_cases h4:kind=4
      · rw [if_pos h4,complineref18_Parse.j2]
        rw [if_pos h4] at hd
        by_cases h7:v=7
        · rw [show (v == 7)=true by simpa using h7,if_pos rfl]
          exact go 0 (by rw [hd,h7]; rfl)
        · rw [show (v == 7)=false by simpa using h7,if_neg (by decide)]
          exact go v (by rw [hd]; have:=hT7 h4; omega)
      · rw [if_neg h4,complineref18_Parse.j2,if_neg (by decide)]
        rw [if_neg h4] at hd
        exact go v hd.symm
    · rw [if_neg hle]
      rw [Fld.vals,if_neg hle] at hr
      exact hr (k+1) (by omega)
theorem rparse_l0 (s : ByteArray) (kind : Int) (L : List ByteArray) (hk : (Lex.limits kind).2.2 = 0) (hL : L.length ≤ 1000) (hx : ∀ x ∈ L, x.size ≤ 1000) (d : Nat) : ∀ (k i : Nat) (b : Int), InU b → i + d = L.length → 300 * d + 2000 ≤ k →
    complineref18_Parse.l0 k s kind L (i:Int) b false=some (if (Fld.parseL kind (L.drop i) b).2≠0 then (0,false,(Fld.parseL kind (L.drop i) b).2) else ((Fld.parseL kind (L.drop i) b).1,(s.toList == [42]),0)):=by
  induction d with
  | zero=>
    intro k i b hb h hk2
    obtain ⟨k,rfl⟩:∃ j,k=j+1:=⟨k - 1,by omega⟩
    rw [complineref18_Parse.l0,if_neg (by omega),List.drop_of_length_le (by omega)]
    rfl
  | succ d ih=>
    intro k i b hb h hk2
    obtain ⟨k,rfl⟩:∃ j,k=j+1:=⟨k - 1,by omega⟩
    have hi:i < L.length:=by omega
    have hrd:rdOf ByteArray.empty L (i:Int)=L[i]:=by unfold rdOf; rw [Int.toNat_natCast,List.getD_eq_getElem?_getD,List.getElem?_eq_getElem hi]; rfl
    have hxi:=hx L[i] (List.getElem_mem hi)
    rw [complineref18_Parse.l0,if_pos (by omega),if_pos (by omega),hrd,ritem_f L[i] kind hk (by omega) k (by omega)]
    simp only [Option.bind_some]
    rw [List.drop_eq_getElem_cons hi]
    have hpl:Fld.parseL kind (L[i] :: L.drop (i+1)) b=if (Fld.itemP L[i] kind).2.2.2≠0 then (0,(Fld.itemP L[i] kind).2.2.2) else Fld.parseL kind (L.drop (i+1)) ((Fld.itemL L[i] kind).foldl Fld.put b):=rfl
    by_cases he:(Fld.itemP L[i] kind).2.2.2=0
    · have hr:ritem (Fld.itemP L[i] kind)=Fld.itemP L[i] kind:=by unfold ritem; rw [if_neg (by simp [he])]
      rw [if_neg (by simp [he])] at hpl
      rw [hpl,hr,if_pos he]
      obtain ⟨-,-,-,-,-,-,b1,b2,b3,b4,b5⟩ :=Fld.item_bd L[i] kind hk he
      have hin:=item_in L[i] kind hk he
      refine rparse_l1 s kind L (i:Int) _ _ _ hk b3 (fun h4=>by subst h4; exact hin.2.2) b4 b5 _ (300*d+2000) _ _ b k hb b1 (by omega) (Nat.le_refl _) ?_ (by omega)
      intro k' hk'
      rw [show wrap64 ((i:Int)+1)=((i+1:Nat):Int) by unfold wrap64; omega]
      exact ih k' (i+1) _ (fold_in _ hb) (by omega) hk'
    · have hr:ritem (Fld.itemP L[i] kind)=(0,0,0,(Fld.itemP L[i] kind).2.2.2):=by unfold ritem; rw [if_pos he]
      rw [if_pos he] at hpl
      rw [hpl,hr,if_neg he,if_pos he]
theorem rparse_f (s:ByteArray)(kind:Int)(hs:s.size≤300)(k:Nat)(hk:100000≤k):complineref18_Parse.f k s kind=some (Fld.parse s kind):=by
  have hlim:complineref18_limits.f kind=some ((Lex.limits kind).1,(if kind=4 then 6 else (Lex.limits kind).2.1),(Lex.limits kind).2.2):=by
    unfold complineref18_limits.f
    rw [Lex.rlimits_f]
    simp only [Option.bind_some]
    split <;> rfl
  unfold complineref18_Parse.f Fld.parse
  rw [hlim]
  simp only [Option.bind_some]
  by_cases h:(Lex.limits kind).2.2=0
  · rw [if_pos h,if_neg (by simp [h]),show (44:Int)=(((44:UInt8).toNat:Nat):Int) from rfl,rsplit_f s 44 (by omega) k (by omega)]
    simp only [Option.bind_some]
    have hl:(Fld.parts 44 s).length≤301:=by
      have:=sp_len 44 s.data.toList
      rw [size_list] at this
      rw [parts_sp,List.length_map]
      omega
    have:=rparse_l0 s kind (Fld.parts 44 s) h (by omega) (fun x hx=>by have:=Fld.parts_size 44 s x hx; omega) (Fld.parts 44 s).length k 0 0 (by unfold InU; omega) (by omega) (by omega)
    rw [List.drop_zero] at this
    exact this
  · rw [if_neg h,if_pos h]
/-- How many of the bits from v on, d of them, are set; and whether one lies out. -/
def cntF (f:Nat→Bool):Nat→Nat→Nat
  | _,0=>0
  | v,d+1=>(if f v then 1 else 0)+cntF f (v+1) d
def outF (f:Nat→Bool)(lo hi:Nat):Nat→Nat→Bool
  | _,0=>false
  | v,d+1=>(f v && (decide (v < lo) || decide (hi < v))) || outF f lo hi (v+1) d
def finF (lo hi:Nat)(s:Bool)(m:Nat):Option Int:=if (m:Int)=0 then some 2 else if s=true then (if (m:Int)=(hi:Int) - lo+1 then some 0 else some 2) else some 0
theorem Ref_check_l (b : Int) (s : Bool) (lo hi : Nat) (hb : InU b) (hh : lo ≤ hi) (h59 : hi ≤ 59) : ∀ (d v n K : Nat), v + d = 64 → n ≤ v →
    complineref18_Check.l0 (2*d+1+(K+72)) (lo:Int) (hi:Int) (n:Int) (v:Int) b s=if outF (bitAt b) lo hi v d=true then some 2 else finF lo hi s (n+cntF (bitAt b) v d)
  | 0,v,n,K,hv,hn=>by
    have hw:wrap64 (wrap64 ((hi:Int) - lo)+1)=(hi:Int) - lo+1:=by unfold wrap64; omega
    rw [show 2*0+1+(K+72)=(K+72)+1 by omega,complineref18_Check.l0,if_neg (by omega),hw]
    rfl
  | d+1,v,n,K,hv,hn=>by
    have hw:wrap64 ((v:Int)+1)=((v+1:Nat):Int):=by unfold wrap64; omega
    have hwn:wrap64 ((n:Int)+1)=((n+1:Nat):Int):=by unfold wrap64; omega
    rw [show 2*(d+1)+1+(K+72)=(2*d+1+(K+72)+1)+1 by omega,complineref18_Check.l0,if_pos (by omega)]
    rw [show 2*d+1+(K+72)+1=(2*d+K+4)+70 by omega,Ref_has b s v hb (by omega)]
    simp only [Option.bind_some]
    rw [show 2*d+K+4+70=(2*d+1+(K+72))+1 by omega]
    unfold outF cntF
    cases hbv:bitAt b v
    · rw [if_neg (by decide),complineref18_Check.j1,if_neg (by decide),if_neg (by decide),hw,Ref_check_l b s lo hi hb hh h59 d (v+1) n K (by omega) (by omega)]
      simp
    · rw [if_pos rfl]
      by_cases h1:(v:Int) < lo
      · rw [if_pos h1,complineref18_Check.j1,if_pos rfl]
        rw [decide_eq_true (by omega:v < lo)]
        rfl
      · rw [if_neg h1,complineref18_Check.j1]
        by_cases h2:(v:Int) > hi
        · rw [decide_eq_true h2,if_pos rfl,decide_eq_true (by omega:hi < v)]
          simp
        · rw [decide_eq_false h2,if_neg (by decide),if_pos rfl,hw,hwn,Ref_check_l b s lo hi hb hh h59 d (v+1) (n+1) K (by omega) (by omega)]
          rw [decide_eq_false (by omega:¬ v < lo),decide_eq_false (by omega:¬ hi < v)]
          simp [Nat.add_assoc]
theorem out_iff (f:Nat→Bool)(lo hi:Nat):∀ (d v:Nat),outF f lo hi v d=false↔∀ i,v≤i→i < v+d→f i=true→lo≤i∧i≤hi
  | 0,v=>⟨fun _ i h1 h2=>by omega,fun _=>rfl⟩
  | d+1,v=>by
    unfold outF
    rw [Bool.or_eq_false_iff,out_iff f lo hi d (v+1)]
    constructor
    · rintro ⟨h1,h2⟩ i h3 h4 h5
      by_cases hi':i=v
      · subst hi'
        rw [h5] at h1
        simp at h1
        omega
      · exact h2 i (by omega) (by omega) h5
    · intro h
      refine ⟨?_,fun i h1 h2 h3=>h i (by omega) (by omega) h3⟩
      cases hf:f v
      · rfl
      · have:=h v (by omega) (by omega) hf
        simp; omega
theorem cnt_zero (f:Nat→Bool):∀ (d v:Nat),cntF f v d=0↔∀ i,v≤i→i < v+d→f i=false
  | 0,v=>⟨fun _ i h1 h2=>by omega,fun _=>rfl⟩
  | d+1,v=>by
    unfold cntF
    constructor
    · intro h i h1 h2
      by_cases hi:i=v
      · subst hi; cases hf:f i; rfl; rw [hf] at h; simp at h
      · exact (cnt_zero f d (v+1)).1 (by omega) i (by omega) (by omega)
    · intro h
      rw [h v (by omega) (by omega),(cnt_zero f d (v+1)).2 (fun i h1 h2=>h i (by omega) (by omega))]
      rfl
theorem cnt_le (f g:Nat→Bool):∀ (d v:Nat),(∀ i,v≤i→i < v+d→f i=true→g i=true)→cntF f v d≤cntF g v d∧(cntF f v d=cntF g v d↔∀ i,v≤i→i < v+d→f i=g i)
  | 0,v,_=>⟨Nat.le_refl _,fun _ i h1 h2=>by omega,fun _=>rfl⟩
  | d+1,v,h=>by
    obtain ⟨h1,h2⟩ :=cnt_le f g d (v+1) (fun i a b c=>h i (by omega) (by omega) c)
    unfold cntF
    have h3:=h v (by omega) (by omega)
    constructor
    · cases hf:f v
      · simp; omega
      · rw [h3 hf]; simp; exact h1
    · constructor
      · intro he i a b
        by_cases hi:i=v
        · subst hi
          cases hf:f i
          · cases hg:g i
            · rfl
            · rw [hf,hg] at he; simp at he; omega
          · rw [h3 hf]
        · refine h2.1 ?_ i (by omega) (by omega)
          cases hf:f v
          · rw [hf] at he
            simp at he
            cases hg:g v
            · rw [hg] at he; simpa using he
            · rw [hg] at he; simp at he; omega
          · rw [hf,h3 hf] at he; simpa using he
      · intro he
        rw [he v (by omega) (by omega),h2.2 (fun i a b=>he i (by omega) (by omega))]
theorem cnt_ext (f g:Nat→Bool)(h:∀ i,f i=g i):∀ (d v:Nat),cntF f v d=cntF g v d
  | 0,_=>rfl
  | d+1,v=>by unfold cntF; rw [h v,cnt_ext f g h d (v+1)]
theorem Ref_check (b : Int) (s : Bool) (kind : Int) (lo hi : Nat) (hb : InU b) (hk : (Lex.limits kind).2.2 = 0) (hlo : (Lex.limits kind).1 = lo) (hhi : top kind = hi) (h1 : lo ≤ hi) (h2 : hi ≤ 59)
    (hl:complineref18_limits.f kind=some ((lo:Int),(hi:Int),0)) (hc:cntF (fun i=>decide (lo≤i) && decide (i≤hi)) 0 64=hi+1 - lo) (K:Nat) :
    complineref18_Check.f (K+201) b s kind=field_Check.f b s kind:=by
  rw [check_f b s kind lo hi hk hlo hhi h1 h2]
  unfold complineref18_Check.f
  rw [hl]
  simp only [Option.bind_some,if_true]
  have e:=Ref_check_l b s lo hi hb h1 h2 64 0 0 K (by omega) (by omega)
  rw [show 2*64+1+(K+72)=K+201 by omega] at e
  refine (show complineref18_Check.l0 (K+201) (lo:Int) (hi:Int) 0 0 b s=_ from e).trans ?_
  rw [Nat.zero_add]
  have hev:=ev_in lo hi (by omega)
  by_cases ho:outF (bitAt b) lo hi 0 64=true
  · rw [if_pos ho]
    by_cases hz:b=0
    · rw [if_pos hz]
    · rw [if_neg hz,if_neg]
      intro ha
      rw [andNot_zero _ _ hb hev] at ha
      have:outF (bitAt b) lo hi 0 64=false:=(out_iff _ _ _ _ _).2 (fun i _ hi6 hbi=>by
        have:=ha i (by omega) hbi
        rw [bit_ev lo hi i (by omega)] at this
        simp at this
        exact this)
      rw [this] at ho
      cases ho
  · rw [if_neg ho]
    have ho':outF (bitAt b) lo hi 0 64=false:=by simpa using ho
    have hin:=(out_iff _ _ _ _ _).1 ho'
    have hsub:∀ i,i < 64→bitAt b i=true→bitAt (evB lo hi) i=true:=by
      intro i hi6 hbi
      obtain ⟨q1,q2⟩ :=hin i (by omega) (by omega) hbi
      rw [bit_ev lo hi i (by omega),decide_eq_true q1,decide_eq_true q2]
      rfl
    have hz:cntF (bitAt b) 0 64=0↔b=0:=by
      rw [cnt_zero]
      constructor
      · intro h
        exact eq_of_bits hb (by unfold InU; omega) (fun i hi6=>by rw [h i (by omega) (by omega),bit_zero])
      · rintro rfl i _ _
        exact bit_zero i
    have hf:cntF (bitAt b) 0 64=hi+1 - lo↔b=evB lo hi:=by
      have q:=(cnt_le (bitAt b) (bitAt (evB lo hi)) 64 0 (fun i _ h4 h5=>hsub i (by omega) h5)).2
      have q2:cntF (bitAt (evB lo hi)) 0 64=hi+1 - lo:=by rw [← hc]; exact cnt_ext _ _ (fun i=>bit_ev lo hi i (by omega)) 64 0
      rw [q2] at q
      rw [q]
      constructor
      · intro h
        exact eq_of_bits hb hev (fun i hi6=>h i (by omega) (by omega))
      · rintro rfl i _ _
        rfl
    unfold finF
    rw [if_pos ((andNot_zero _ _ hb hev).2 hsub)]
    by_cases hb0:b=0
    · rw [if_pos (by rw [hz.2 hb0]; rfl),if_pos hb0]
    · rw [if_neg (by intro e; exact hb0 (hz.1 (by omega))),if_neg hb0]
      cases s
      · rfl
      · rw [if_pos rfl,if_pos rfl]
        by_cases hbe:b=evB lo hi
        · rw [if_pos (by rw [hf.2 hbe]; omega),if_pos hbe]
        · rw [if_neg (by intro e; exact hbe (hf.1 (by omega))),if_neg hbe]
theorem Ref_check_k (b:Int)(s:Bool)(i:Nat)(hi:i < 5)(hb:InU b)(K:Nat):complineref18_Check.f (K+201) b s (i:Int)=field_Check.f b s (i:Int):=by
  rcases (by omega:i=0∨i=1∨i=2∨i=3∨i=4) with rfl | rfl | rfl | rfl | rfl
  · exact Ref_check b s 0 0 59 hb rfl rfl rfl (by decide) (by decide) rfl (by decide +kernel) K
  · exact Ref_check b s 1 0 23 hb rfl rfl rfl (by decide) (by decide) rfl (by decide +kernel) K
  · exact Ref_check b s 2 1 31 hb rfl rfl rfl (by decide) (by decide) rfl (by decide +kernel) K
  · exact Ref_check b s 3 1 12 hb rfl rfl rfl (by decide) (by decide) rfl (by decide +kernel) K
  · exact Ref_check b s 4 0 6 hb rfl rfl rfl (by decide) (by decide) rfl (by decide +kernel) K
theorem Ref_has_all (b:Int)(s:Bool)(v:Int)(hb:InU b)(K:Nat):complineref18_Has.f (K+70) b s v=some (decide (0≤v) && decide (v < 64) && bitAt b v.toNat):=by
  by_cases h0:v < 0
  · unfold complineref18_Has.f
    rw [if_pos h0,complineref18_Has.j0,if_pos rfl,decide_eq_false (by omega)]
    rfl
  by_cases h1:v > 63
  · unfold complineref18_Has.f
    rw [if_neg h0,decide_eq_true h1,complineref18_Has.j0,if_pos rfl,decide_eq_false (by omega:¬ v < 64)]
    simp
  obtain ⟨n,rfl⟩:∃ n:Nat,v=n:=⟨v.toNat,by omega⟩
  rw [Ref_has b s n hb (by omega) K,Int.toNat_natCast,decide_eq_true (by omega),decide_eq_true (by omega)]
  rfl
def firstN (f:Nat→Bool):Nat→Nat→Option Nat
  | _,0=>none
  | v,d+1=>if f v then some v else firstN f (v+1) d
theorem Ref_first_l (b:Int)(s:Bool)(hb:InU b)(K:Nat):∀ (d v:Nat),v+d=64→complineref18_First.l0 (d+(K+71)) (v:Int) b s=some (match firstN (bitAt b) v d with | some i=>((i:Int),true) | none=>(0,false))
  | 0,v,hv=>by
    rw [show 0+(K+71)=(K+70)+1 by omega,complineref18_First.l0,if_neg (by omega)]
    rfl
  | d+1,v,hv=>by
    have hw:wrap64 ((v:Int)+1)=((v+1:Nat):Int):=by unfold wrap64; omega
    rw [show d+1+(K+71)=(d+(K+71))+1 by omega,complineref18_First.l0,if_pos (by omega),show d+(K+71)=(d+K+1)+70 by omega,Ref_has b s v hb (by omega)]
    simp only [Option.bind_some]
    unfold firstN
    by_cases h:bitAt b v=true
    · rw [if_pos h,if_pos h]
    · rw [if_neg h,if_neg h,hw,show d+K+1+70=d+(K+71) by omega,Ref_first_l b s hb K d (v+1) (by omega)]
theorem first_ntz:∀ (d m n:Nat),n < 2 ^ (m+d)→firstN (fun i=>n.testBit i) m d=if n / 2 ^ m=0 then none else some (m+Fld.ntzN d (n / 2 ^ m))
  | 0,m,n,h=>by rw [if_pos (Nat.div_eq_of_lt (by simpa using h))]; rfl
  | d+1,m,n,h=>by
    have ih:=first_ntz d (m+1) n (by rw [show m+1+d=m+(d+1) by omega]; exact h)
    have hq:n / 2 ^ (m+1)=n / 2 ^ m / 2:=by rw [Nat.pow_succ,Nat.div_div_eq_div_mul]
    have ht:n.testBit m=decide (n / 2 ^ m % 2=1):=Nat.testBit_eq_decide_div_mod_eq
    unfold firstN
    rw [ht,ih,hq]
    generalize n / 2 ^ m=q
    by_cases h1:q % 2=1
    · rw [decide_eq_true h1,if_pos rfl,if_neg (by omega)]
      unfold Fld.ntzN
      rw [if_pos h1]
      rfl
    · rw [decide_eq_false h1,if_neg (by decide)]
      by_cases h2:q=0
      · rw [if_pos (by omega),if_pos h2]
      · rw [if_neg (by omega),if_neg h2]
        show _=some (m+Fld.ntzN (d+1) q)
        rw [Fld.ntzN,if_neg h1]
        congr 1
        omega
theorem ntz_shift:∀ (m f q:Nat),Fld.ntzN (m+f) (q*2 ^ m)=m+Fld.ntzN f q
  | 0,f,q=>by simp
  | m+1,f,q=>by
    rw [show m+1+f=(m+f)+1 by omega,Fld.ntzN]
    have h1:q*2 ^ (m+1)=2*(q*2 ^ m):=by rw [Nat.pow_succ,← Nat.mul_assoc,Nat.mul_comm]
    rw [h1,if_neg (by omega),Nat.mul_div_cancel_left _ (by decide),ntz_shift m f q]
    omega
theorem Ref_first (b:Int)(s:Bool)(v:Int)(hb:InU b)(K:Nat):complineref18_First.f (K+135) b s v=field_First.f b s v:=by
  unfold complineref18_First.f field_First.f
  obtain ⟨m,hm⟩:∃ m:Nat,mx v 0=m:=⟨(mx v 0).toNat,by unfold mx; split <;> omega⟩
  rw [hm]
  obtain ⟨n,rfl,hn⟩ :=nat_of b hb
  by_cases h:(m:Int) > 63
  · rw [if_pos h,show K+135=(K+134)+1 by omega,complineref18_First.l0,if_neg (by omega)]
  · have hw:IntKind.u64.wrap (m:Int)=(m:Int):=by rw [u64w]; omega
    rw [if_neg h,hw,if_pos (by omega),shr_nat n m (by omega),shl_nat (n / 2 ^ m) m (by omega)]
    have hle:n / 2 ^ m*2 ^ m≤n:=Nat.div_mul_le_self _ _
    rw [Nat.mod_eq_of_lt (Nat.lt_of_le_of_lt hle hn)]
    have e:=Ref_first_l (n:Int) s hb (K+m) (64 - m) m (by omega)
    rw [show 64 - m+(K+m+71)=K+135 by omega] at e
    rw [e]
    have q:=first_ntz (64 - m) m n (by rw [show m+(64 - m)=64 by omega]; exact hn)
    have hb':bitAt (n:Int)=fun i=>n.testBit i:=by funext i; unfold bitAt; rw [Int.toNat_natCast]
    rw [hb',q]
    by_cases hz:n / 2 ^ m=0
    · rw [if_pos hz,if_pos (by rw [hz]; simp)]
    · have hp:0 < n / 2 ^ m*2 ^ m:=Nat.mul_pos (Nat.pos_of_ne_zero hz) (Nat.two_pow_pos m)
      rw [if_neg hz,if_neg (by omega)]
      unfold bits_TrailingZeros64.f
      rw [show (2:Nat) ^ 64=18446744073709551616 by decide] at hn
      rw [if_pos ⟨by omega,by omega⟩]
      simp only [Option.bind_some]
      unfold Fld.ntz
      rw [Int.toNat_natCast]
      have:=ntz_shift m (64 - m) (n / 2 ^ m)
      rw [show m+(64 - m)=64 by omega] at this
      rw [this]
theorem Ref_limits (kind:Int):complineref18_limits.f kind=some ((Lex.limits kind).1,top kind,(Lex.limits kind).2.2):=by
  unfold complineref18_limits.f complineref17_Limits.f top Lex.limits
  by_cases h0:kind=0
  · subst h0; rfl
  by_cases h1:kind=1
  · subst h1; rfl
  by_cases h2:kind=2
  · subst h2; rfl
  by_cases h3:kind=3
  · subst h3; rfl
  by_cases h4:kind=4
  · subst h4; rfl
  · simp [h0,h1,h2,h3,h4]
theorem Ref_check_all (b:Int)(s:Bool)(kind:Int)(hb:InU b)(K:Nat):complineref18_Check.f (K+201) b s kind=field_Check.f b s kind:=by
  by_cases hk:(Lex.limits kind).2.2=0
  · rcases kinds kind hk with rfl | rfl | rfl | rfl | rfl
    · exact Ref_check b s 0 0 59 hb rfl rfl rfl (by decide) (by decide) rfl (by decide +kernel) K
    · exact Ref_check b s 1 0 23 hb rfl rfl rfl (by decide) (by decide) rfl (by decide +kernel) K
    · exact Ref_check b s 2 1 31 hb rfl rfl rfl (by decide) (by decide) rfl (by decide +kernel) K
    · exact Ref_check b s 3 1 12 hb rfl rfl rfl (by decide) (by decide) rfl (by decide +kernel) K
    · exact Ref_check b s 4 0 6 hb rfl rfl rfl (by decide) (by decide) rfl (by decide +kernel) K
  · rw [check_bad b s kind hk]
    unfold complineref18_Check.f
    rw [Ref_limits]
    simp only [Option.bind_some]
    rw [if_neg hk]
theorem SC_step (k i j : Nat) (hj : j = i + 1) (x : List S24) (e : Int) (hi : i < 5) (hl : x.length = 5) (hq : complineref18_Check.f k (rd_T24 x (i : Int)).f0 (rd_T24 x (i : Int)).f1 (i : Int) = some e) :
    complineref19_Check.l0 (k+1) x (i:Int)=if e=0 then complineref19_Check.l0 k x (j:Int) else some ((i:Int)+1,e):=by
  subst hj
  have hw:wrap64 ((i:Int)+1)=(i:Int)+1:=by unfold wrap64; omega
  rw [complineref19_Check.l0,if_pos (by omega),if_pos (by omega),if_pos (by omega),hq]
  simp only [Option.bind_some]
  rw [hw]
  rfl
theorem SC_refK (a0:Int)(a1:Bool)(a2:Int)(a3:Bool)(a4:Int)(a5:Bool)(a6:Int)(a7:Bool)(a8:Int)(a9:Bool)(K:Nat)(h0:InU a0)(h2:InU a2)(h4:InU a4)(h6:InU a6)(h8:InU a8):∃ n e,spec_Check.f a0 a1 a2 a3 a4 a5 a6 a7 a8 a9=some (n,e)∧complineref19_Check.f (K+206) a0 a1 a2 a3 a4 a5 a6 a7 a8 a9=some (n,e):=by
  unfold complineref19_Check.f complineref19_Fields.f spec_Check.f
  simp only [Option.bind_some]
  rw [show complineref19_Check.l0 (K+206) ([(⟨a0,a1⟩:S24),(⟨a2,a3⟩:S24),(⟨a4,a5⟩:S24),(⟨a6,a7⟩:S24),(⟨a8,a9⟩:S24)]:List S24) 0=complineref19_Check.l0 (K+206) ([(⟨a0,a1⟩:S24),(⟨a2,a3⟩:S24),(⟨a4,a5⟩:S24),(⟨a6,a7⟩:S24),(⟨a8,a9⟩:S24)]:List S24) ((0:Nat):Int) from rfl]
  obtain ⟨e0,q0⟩ :=chk_tot a0 a1 0 (by omega)
  have r0:complineref18_Check.f (K+205) (rd_T24 ([(⟨a0,a1⟩:S24),(⟨a2,a3⟩:S24),(⟨a4,a5⟩:S24),(⟨a6,a7⟩:S24),(⟨a8,a9⟩:S24)]:List S24) ((0:Nat):Int)).f0 (rd_T24 ([(⟨a0,a1⟩:S24),(⟨a2,a3⟩:S24),(⟨a4,a5⟩:S24),(⟨a6,a7⟩:S24),(⟨a8,a9⟩:S24)]:List S24) ((0:Nat):Int)).f1 ((0:Nat):Int)=some e0:=(Ref_check_k a0 a1 0 (by omega) h0 (K+4)).trans q0
  rw [SC_step (K+205) 0 1 rfl _ e0 (by omega) rfl r0,show field_Check.f a0 a1 0=_ from q0]
  simp only [Option.bind_some]
  by_cases c0:e0≠0
  · rw [if_pos c0,if_neg c0]; exact ⟨_,_,rfl,rfl⟩
  rw [if_neg c0,if_pos (by simpa using c0)]
  obtain ⟨e1,q1⟩ :=chk_tot a2 a3 1 (by omega)
  have r1:complineref18_Check.f (K+204) (rd_T24 ([(⟨a0,a1⟩:S24),(⟨a2,a3⟩:S24),(⟨a4,a5⟩:S24),(⟨a6,a7⟩:S24),(⟨a8,a9⟩:S24)]:List S24) ((1:Nat):Int)).f0 (rd_T24 ([(⟨a0,a1⟩:S24),(⟨a2,a3⟩:S24),(⟨a4,a5⟩:S24),(⟨a6,a7⟩:S24),(⟨a8,a9⟩:S24)]:List S24) ((1:Nat):Int)).f1 ((1:Nat):Int)=some e1:=(Ref_check_k a2 a3 1 (by omega) h2 (K+3)).trans q1
  rw [SC_step (K+204) 1 2 rfl _ e1 (by omega) rfl r1,show field_Check.f a2 a3 1=_ from q1]
  simp only [Option.bind_some]
  by_cases c1:e1≠0
  · rw [if_pos c1,if_neg c1]; exact ⟨_,_,rfl,rfl⟩
  rw [if_neg c1,if_pos (by simpa using c1)]
  obtain ⟨e2,q2⟩ :=chk_tot a4 a5 2 (by omega)
  have r2:complineref18_Check.f (K+203) (rd_T24 ([(⟨a0,a1⟩:S24),(⟨a2,a3⟩:S24),(⟨a4,a5⟩:S24),(⟨a6,a7⟩:S24),(⟨a8,a9⟩:S24)]:List S24) ((2:Nat):Int)).f0 (rd_T24 ([(⟨a0,a1⟩:S24),(⟨a2,a3⟩:S24),(⟨a4,a5⟩:S24),(⟨a6,a7⟩:S24),(⟨a8,a9⟩:S24)]:List S24) ((2:Nat):Int)).f1 ((2:Nat):Int)=some e2:=(Ref_check_k a4 a5 2 (by omega) h4 (K+2)).trans q2
  rw [SC_step (K+203) 2 3 rfl _ e2 (by omega) rfl r2,show field_Check.f a4 a5 2=_ from q2]
  simp only [Option.bind_some]
  by_cases c2:e2≠0
  · rw [if_pos c2,if_neg c2]; exact ⟨_,_,rfl,rfl⟩
  rw [if_neg c2,if_pos (by simpa using c2)]
  obtain ⟨e3,q3⟩ :=chk_tot a6 a7 3 (by omega)
  have r3:complineref18_Check.f (K+202) (rd_T24 ([(⟨a0,a1⟩:S24),(⟨a2,a3⟩:S24),(⟨a4,a5⟩:S24),(⟨a6,a7⟩:S24),(⟨a8,a9⟩:S24)]:List S24) ((3:Nat):Int)).f0 (rd_T24 ([(⟨a0,a1⟩:S24),(⟨a2,a3⟩:S24),(⟨a4,a5⟩:S24),(⟨a6,a7⟩:S24),(⟨a8,a9⟩:S24)]:List S24) ((3:Nat):Int)).f1 ((3:Nat):Int)=some e3:=(Ref_check_k a6 a7 3 (by omega) h6 (K+1)).trans q3
  rw [SC_step (K+202) 3 4 rfl _ e3 (by omega) rfl r3,show field_Check.f a6 a7 3=_ from q3]
  simp only [Option.bind_some]
  by_cases c3:e3≠0
  · rw [if_pos c3,if_neg c3]; exact ⟨_,_,rfl,rfl⟩
  rw [if_neg c3,if_pos (by simpa using c3)]
  obtain ⟨e4,q4⟩ :=chk_tot a8 a9 4 (by omega)
  have r4:complineref18_Check.f (K+201) (rd_T24 ([(⟨a0,a1⟩:S24),(⟨a2,a3⟩:S24),(⟨a4,a5⟩:S24),(⟨a6,a7⟩:S24),(⟨a8,a9⟩:S24)]:List S24) ((4:Nat):Int)).f0 (rd_T24 ([(⟨a0,a1⟩:S24),(⟨a2,a3⟩:S24),(⟨a4,a5⟩:S24),(⟨a6,a7⟩:S24),(⟨a8,a9⟩:S24)]:List S24) ((4:Nat):Int)).f1 ((4:Nat):Int)=some e4:=(Ref_check_k a8 a9 4 (by omega) h8 K).trans q4
  rw [SC_step (K+201) 4 5 rfl _ e4 (by omega) rfl r4,show field_Check.f a8 a9 4=_ from q4]
  simp only [Option.bind_some]
  by_cases c4:e4≠0
  · rw [if_pos c4,if_neg c4]; exact ⟨_,_,rfl,rfl⟩
  rw [if_neg c4,if_pos (by simpa using c4)]
  rw [complineref19_Check.l0,if_neg (by omega)]
  exact ⟨_,_,rfl,rfl⟩
theorem word_size300 (s:ByteArray)(h:(Lex.fields s).2=0)(k:Nat):(Spc.word (Lex.fields s).1 k).size≤300:=by
  have key:s.size≤256∧(Lex.fields s).1=Lib.goFieldsP Lex.blankN s:=by
    unfold Lex.fields at h ⊢
    split at h
    · exact absurd h (by decide)
    · rename_i h1
      rw [if_neg h1]
      split at h
      · exact absurd h (by decide)
      · rename_i h2
        rw [if_neg h2]
        split at h
        · exact absurd h (by decide)
        · rename_i h3
          rw [if_neg h3]
          exact ⟨by omega,rfl⟩
  obtain ⟨hs,hl⟩ :=key
  rw [hl]
  unfold Spc.word
  have hall:∀ x ∈ Lib.goFieldsP Lex.blankN s,x.size≤s.size:=by
    intro x hx
    unfold Lib.goFieldsP at hx
    obtain ⟨p,_,rfl⟩ :=List.mem_map.1 hx
    rw [ByteArray.size_extract]
    omega
  by_cases hk:k < (Lib.goFieldsP Lex.blankN s).length
  · rw [List.getD_eq_getElem?_getD,List.getElem?_eq_getElem hk]
    have:=hall _ (List.getElem_mem hk)
    simp only [Option.getD_some]
    omega
  · rw [List.getD_eq_getElem?_getD,List.getElem?_eq_none (by omega)]
    show (0:Nat)≤300
    omega
theorem rspec_step (s : ByteArray) (h : (Lex.fields s).2 = 0) (acc : List S24) (k i j : Nat) (hj : j = i + 1) (hi : i < 5) (hk : 100000 ≤ k) (ha : acc.length ≤ 5) :
    complineref19_Parse.l0 (k+1) (Lex.fields s).1 acc (i:Int)=if (Spc.at_ s i).2.2=0 then complineref19_Parse.l0 k (Lex.fields s).1 (acc ++ [⟨(Spc.at_ s i).1,(Spc.at_ s i).2.1⟩]) (j:Int) else some (0,false,0,false,0,false,0,false,0,false,(i:Int)+1,(Spc.at_ s i).2.2):=by
  subst hj
  have h5:=Spc.words5 s h
  have hw:wrap64 ((i:Int)+1)=(i:Int)+1:=by unfold wrap64; omega
  have hrd:rdOf ByteArray.empty (Lex.fields s).1 (i:Int)=Spc.word (Lex.fields s).1 i:=by unfold rdOf Spc.word; rw [Int.toNat_natCast]; rfl
  rw [complineref19_Parse.l0,if_pos (by omega),if_pos (by omega),if_pos (by omega),hrd,rparse_f _ _ (word_size300 s h i) k hk]
  simp only [Option.bind_some]
  have hat:Fld.parse (Spc.word (Lex.fields s).1 i) (i:Int)=Spc.at_ s i:=rfl
  rw [hat,hw]
  by_cases c:(Spc.at_ s i).2.2=0
  · rw [if_pos c,if_pos c,if_pos (by omega),Int.natCast_add]
    rfl
  · rw [if_neg c,if_neg c]
theorem rspec_k (s:ByteArray)(K:Nat)(hK:100000≤K):complineref19_Parse.f (K+6) s=spec_Parse.f s:=by
  unfold complineref19_Parse.f
  rw [Lex.rfields_f s (K+6) (by omega)]
  simp only [Option.bind_some]
  have z:∀ k l,complineref19_Parse.l0 k (Lex.fields s).1 l 0=complineref19_Parse.l0 k (Lex.fields s).1 l ((0:Nat):Int):=fun _ _=>rfl
  rcases Spc.cases s with ⟨h,e⟩ | ⟨h,j,hj,ha,hne,e⟩ | ⟨h,ha,e⟩
  · rw [if_neg h,e]
  · rw [if_pos h,e,z]
    have st:=fun acc k i j=>rspec_step s h acc k i j
    rcases (by omega:j=0∨j=1∨j=2∨j=3∨j=4) with rfl | rfl | rfl | rfl | rfl
    · rw [st [] (K+5) 0 1 rfl (by decide) (by omega) (by decide),if_neg hne]
    · rw [st [] (K+5) 0 1 rfl (by decide) (by omega) (by decide),if_pos (ha 0 (by decide)),st _ (K+4) 1 2 rfl (by decide) (by omega) (by simp),if_neg hne]
    · rw [st [] (K+5) 0 1 rfl (by decide) (by omega) (by decide),if_pos (ha 0 (by decide)),st _ (K+4) 1 2 rfl (by decide) (by omega) (by simp),if_pos (ha 1 (by decide)),st _ (K+3) 2 3 rfl (by decide) (by omega) (by simp),if_neg hne]
    · rw [st [] (K+5) 0 1 rfl (by decide) (by omega) (by decide),if_pos (ha 0 (by decide)),st _ (K+4) 1 2 rfl (by decide) (by omega) (by simp),if_pos (ha 1 (by decide)),st _ (K+3) 2 3 rfl (by decide) (by omega) (by simp),if_pos (ha 2 (by decide)),st _ (K+2) 3 4 rfl (by decide) (by omega) (by simp),if_neg hne]
    · rw [st [] (K+5) 0 1 rfl (by decide) (by omega) (by decide),if_pos (ha 0 (by decide)),st _ (K+4) 1 2 rfl (by decide) (by omega) (by simp),if_pos (ha 1 (by decide)),st _ (K+3) 2 3 rfl (by decide) (by omega) (by simp),if_pos (ha 2 (by decide)),st _ (K+2) 3 4 rfl (by decide) (by omega) (by simp),if_pos (ha 3 (by decide)),st _ (K+1) 4 5 rfl (by decide) (by omega) (by simp),if_neg hne]
  · rw [if_pos h,e,z]
    have st:=fun acc k i j=>rspec_step s h acc k i j
    rw [st [] (K+5) 0 1 rfl (by decide) (by omega) (by decide),if_pos (ha 0 (by decide)),st _ (K+4) 1 2 rfl (by decide) (by omega) (by simp),if_pos (ha 1 (by decide)),st _ (K+3) 2 3 rfl (by decide) (by omega) (by simp),if_pos (ha 2 (by decide)),st _ (K+2) 3 4 rfl (by decide) (by omega) (by simp),if_pos (ha 3 (by decide)),st _ (K+1) 4 5 rfl (by decide) (by omega) (by simp),if_pos (ha 4 (by decide))]
    rw [complineref19_Parse.l0,if_neg (by decide)]
    rfl
/-! The document's show, as plain numbers. -/
theorem Shw.rdig1:∀ n:Fin 64,strOfNums [(wrap64 (48+(n.val:Int))) % 256]=(⟨#[(48+n.val).toUInt8]⟩:ByteArray):=by decide +kernel
theorem Shw.rdig2:∀ n:Fin 64,strOfNums [(wrap64 (48+(wrap64 (Int.tdiv (n.val:Int) 10)))) % 256] ++ strOfNums [(wrap64 (48+(Int.tmod (n.val:Int) 10))) % 256]=(⟨#[(48+n.val / 10).toUInt8,(48+n.val % 10).toUInt8]⟩:ByteArray)∧wrap64 (Int.tdiv (n.val:Int) 10) < 10:=by decide +kernel
theorem Shw.rdig3:∀ n:Fin 64,(strOfNums [(wrap64 (48+(wrap64 (Int.tdiv (n.val:Int) 10)))) % 256]).size=1∧(strOfNums [(wrap64 (48+(Int.tmod (n.val:Int) 10))) % 256]).size=1:=by decide +kernel
theorem Shw.rdigits (n:Nat)(h:n < 64)(k:Nat):complineref20_Digits.f (k+2) (n:Int)=some (Shw.dg n):=by
  unfold Shw.dg
  have q1:=Shw.rdig1 ⟨n,h⟩
  have q2:=Shw.rdig2 ⟨n,h⟩
  have q3:=Shw.rdig3 ⟨n,h⟩
  dsimp only at q1 q2 q3
  rw [complineref20_Digits.f]
  by_cases c:n < 10
  · rw [if_pos (by omega),if_pos c,q1]
  · rw [if_neg (by omega),if_neg c,complineref20_Digits.f,if_pos q2.2]
    simp only [Option.bind_some]
    rw [if_pos (by rw [q3.1,q3.2]; decide),q2.1]
/-- A run's text of the document's. -/
def Shw.rtext (a e:Nat):ByteArray:=if e=a then Shw.dg a else if e=a+1 then Shw.dg a ++ (⟨#[44]⟩:ByteArray) ++ Shw.dg e else Shw.dg a ++ (⟨#[45]⟩:ByteArray) ++ Shw.dg e
theorem Shw.rrun (a e:Nat)(h1:a < 64)(h2:e < 64)(k:Nat):complineref20_run.f (k+2) (a:Int) (e:Int)=some (Shw.rtext a e):=by
  have hw:wrap64 ((a:Int)+1)=(a:Int)+1:=by unfold wrap64; omega
  have d1:=Shw.dg_le a
  have d2:=Shw.dg_le e
  have s1:(⟨#[44]⟩:ByteArray).size=1:=rfl
  have s2:(⟨#[45]⟩:ByteArray).size=1:=rfl
  unfold complineref20_run.f Shw.rtext
  rw [Shw.rdigits a h1 k,Shw.rdigits e h2 k,hw]
  simp only [Option.bind_some]
  by_cases c:e=a
  · rw [if_pos (by omega),if_pos c]
  · rw [if_neg (by omega),if_neg c]
    by_cases c2:e=a+1
    · rw [if_pos (by omega),if_pos c2,if_pos (by omega),if_pos (by rw [ByteArray.size_append,s1]; omega)]
    · rw [if_neg (by omega),if_neg c2,if_pos (by omega),if_pos (by rw [ByteArray.size_append,s2]; omega)]
theorem Shw.rtext_le (a e:Nat):(Shw.rtext a e).size≤5:=by
  have d1:=Shw.dg_le a
  have d2:=Shw.dg_le e
  have s1:(⟨#[44]⟩:ByteArray).size=1:=rfl
  have s2:(⟨#[45]⟩:ByteArray).size=1:=rfl
  unfold Shw.rtext
  split
  · omega
  split <;> simp only [ByteArray.size_append] <;> omega
theorem Shw.app_assoc (a b c:ByteArray):a ++ b ++ c=a ++ (b ++ c):=by
  apply B_ext
  simp only [ByteArray.data_append,Array.toList_append,List.append_assoc]
theorem Shw.item_add (acc:ByteArray)(a e:Nat):Shw.item acc a e=Shw.add acc (Shw.rtext a e):=by
  unfold Shw.item Shw.rtext
  by_cases c:e=a
  · rw [if_pos c,if_pos c]
  · rw [if_neg c,if_neg c]
    by_cases c2:e=a+1
    · rw [if_pos c2,if_pos c2]
      have h:=Shw.add_ne acc (Shw.dg a) (Shw.dg_ne a)
      rw [show Shw.add (Shw.add acc (Shw.dg a)) (Shw.dg e)=Shw.add acc (Shw.dg a) ++ (⟨#[44]⟩:ByteArray) ++ Shw.dg e from if_neg h]
      unfold Shw.add
      split
      · rfl
      · simp only [Shw.app_assoc]
    · rw [if_neg c2,if_neg c2]
theorem Shw.rend (b:Int)(s:Bool)(hb:InU b)(a:Nat)(ha:a < 64)(hp:bitAt b a=true)(K:Nat):complineref20_end.f (K+200) b s (a:Int)=some ((Shw.stop (bitAt b) (64 - a) a - 1:Nat):Int):=by
  have h64:bitAt b 64=false:=by
    unfold bitAt
    have h1:b.toNat < 2 ^ 64:=by
      have:=hb.2
      have e2:(2:Nat) ^ 64=18446744073709551616:=by decide
      omega
    exact Nat.testBit_lt_two_pow h1
  unfold complineref20_end.f
  have key:=Shw.loop_end (bitAt b) h64 (fun k v=>complineref20_end.l0 (k+70) v b s) ?_ ?_ (63 - a) a (K+200 - 70 - (63 - a+1)) (by omega) hp
  · rw [show 63 - a+1+(K+200 - 70 - (63 - a+1))+70=K+200 by omega] at key
    exact key
  · intro k v hv h1
    show complineref20_end.l0 (k+1+70) (v:Int) b s=complineref20_end.l0 (k+70) ((v+1:Nat):Int) b s
    rw [show k+1+70=k+70+1 by omega]
    have hw:wrap64 ((v:Int)+1)=((v+1:Nat):Int):=by unfold wrap64; omega
    have hh:complineref18_Has.f (k+70) b s ((v+1:Nat):Int)=some true:=by
      rw [Ref_has_all b s ((v+1:Nat):Int) hb k,Int.toNat_natCast,h1]
      have:v+1 < 64:=by
        rcases Nat.lt_or_ge (v+1) 64 with q | q
        · exact q
        · rw [show v+1=64 by omega,h64] at h1; cases h1
      rw [decide_eq_true (by omega),decide_eq_true (by omega)]; rfl
    generalize k+70=m at hh ⊢
    rw [complineref20_end.l0,hw,hh]
    rw [Option.bind_some,if_pos rfl]
  · intro k v hv h1
    show complineref20_end.l0 (k+1+70) (v:Int) b s=some (v:Int)
    rw [show k+1+70=k+70+1 by omega]
    have hw:wrap64 ((v:Int)+1)=((v+1:Nat):Int):=by unfold wrap64; omega
    have hh:complineref18_Has.f (k+70) b s ((v+1:Nat):Int)=some false:=by
      rw [Ref_has_all b s ((v+1:Nat):Int) hb k,Int.toNat_natCast,h1]
      simp
    generalize k+70=m at hh ⊢
    rw [complineref20_end.l0,hw,hh]
    rw [Option.bind_some,if_neg (by decide)]
theorem Shw.loop_runs2 (p : Nat → Bool) (M : Nat) (L : Nat → ByteArray → Int → Bool → Option (ByteArray × Int)) (hs : ∀ k acc, L (k + 1) acc 0 false = some (acc, 0))
    (hn:∀ k acc (a:Nat),acc.size≤M→a < 64→p a=true→L (k+1) acc (a:Int) true=L k (Shw.item acc a (Shw.stop p (64 - a) a - 1)) (Shw.nx p (Shw.stop p (64 - a) a)).1 (Shw.nx p (Shw.stop p (64 - a) a)).2) :
    ∀ (f v K:Nat) (acc:ByteArray),acc.size+6*f≤M→64≤v+f→L (f+1+K) acc (Shw.nx p v).1 (Shw.nx p v).2=some (Shw.fold (Shw.runs p f v) acc,0):=by
  intro f
  induction f with
  | zero=>
    intro v K acc _ h
    have e:Shw.nx p v=(0,false):=by unfold Shw.nx; rw [show 64 - v=0 by omega]; rfl
    rw [e,show 0+1+K=K+1 by omega,hs]
    rfl
  | succ f ih=>
    intro v K acc hM h
    rw [show f+1+1+K=(f+1+K)+1 by omega,Shw.runs]
    cases hf:Shw.fst p (64 - v) v with
    | none=>
      have e:Shw.nx p v=(0,false):=by unfold Shw.nx; rw [hf]
      rw [e,hs]
      rfl
    | some a=>
      obtain ⟨h1,h2,h3,_⟩ :=Shw.fst_some hf
      have e:Shw.nx p v=((a:Int),true):=by unfold Shw.nx; rw [hf]
      have g:=Shw.stop_gt (p:=p) (show a < 64 by omega) h3
      have hit:=Shw.item_le acc a (Shw.stop p (64 - a) a - 1)
      rw [e,hn _ _ a (by omega) (by omega) h3,ih _ K _ (by omega) (by omega)]
      rfl
theorem Shw.rfirst (b:Int)(s:Bool)(hb:InU b)(n K:Nat):complineref18_First.f (K+135) b s (n:Int)=some ((Shw.nx (bitAt b) n).1,(Shw.nx (bitAt b) n).2):=by
  rw [Ref_first b s (n:Int) hb K]
  exact Shw.first_nx b s hb n
theorem Shw.rloop (b:Int)(s:Bool)(hb:InU b)(K:Nat):complineref20_Field.l0 (K+400) ⟨#[]⟩ (Shw.nx (bitAt b) 0).1 (Shw.nx (bitAt b) 0).2 b s=some (Shw.text (bitAt b),0):=by
  have key:=Shw.loop_runs2 (bitAt b) 1000 (fun k acc v ok=>complineref20_Field.l0 (k+300) acc v ok b s) ?_ ?_ 64 0 (K+400 - 300 - 65) ⟨#[]⟩ (by decide) (by decide)
  · rw [show 64+1+(K+400 - 300 - 65)+300=K+400 by omega] at key
    exact key
  · intro k acc
    show complineref20_Field.l0 (k+1+300) acc 0 false b s=_
    rw [show k+1+300=k+300+1 by omega]
    generalize k+300=m
    rw [complineref20_Field.l0,if_neg (by decide)]
  · intro k acc a hM ha hp
    show complineref20_Field.l0 (k+1+300) acc (a:Int) true b s=complineref20_Field.l0 (k+300) _ _ _ b s
    rw [show k+1+300=k+300+1 by omega]
    have g:=Shw.stop_gt (p:=bitAt b) ha hp
    have g2:=(Shw.stop_spec (bitAt b) (64 - a) a).2.1
    have he:=Shw.rend b s hb a ha hp (k+100)
    have hr:=Shw.rrun a (Shw.stop (bitAt b) (64 - a) a - 1) ha (by omega) (k+298)
    have hf:=Shw.rfirst b s hb (Shw.stop (bitAt b) (64 - a) a) (k+165)
    have hw:wrap64 (((Shw.stop (bitAt b) (64 - a) a - 1:Nat):Int)+1)=((Shw.stop (bitAt b) (64 - a) a:Nat):Int):=by unfold wrap64; omega
    have hsz:=Shw.rtext_le a (Shw.stop (bitAt b) (64 - a) a - 1)
    have s1:(⟨#[44]⟩:ByteArray).size=1:=rfl
    rw [show k+100+200=k+300 by omega] at he
    rw [show k+298+2=k+300 by omega] at hr
    rw [show k+165+135=k+300 by omega] at hf
    rw [Shw.item_add]
    generalize k+300=m at he hr hf ⊢
    rw [complineref20_Field.l0,if_pos rfl,he]
    simp only [Option.bind_some]
    rw [hr]
    simp only [Option.bind_some]
    rw [hw,hf]
    simp only [Option.bind_some]
    unfold Shw.add
    by_cases c:acc.size=0
    · have c2 : acc.toList = [] := by
        rw [toList_of]
        exact List.length_eq_zero_iff.1 (by rw [Array.length_toList]; exact c)
      have c3:acc=⟨#[]⟩ :=B_ext (by rw [← toList_of,c2])
      rw [if_pos c2,if_pos (by omega),if_pos c]
      subst c3
      congr 1
    · have c2 : ¬ acc.toList = [] := by
        rw [toList_of]
        intro e
        exact c (by have:=congrArg List.length e; rw [Array.length_toList] at this; exact this)
      rw [if_neg c2,if_pos (by omega),if_pos (by rw [ByteArray.size_append,s1]; omega),if_neg c]
/-- The document's field: as the program's. -/
theorem Shw.rfield (b:Int)(s:Bool)(kind:Int)(hb:InU b)(K:Nat):complineref20_Field.f (K+400) b s kind=show_Field.f b s kind:=by
  show _=Shw.fieldF b s kind
  unfold complineref20_Field.f Shw.fieldF
  rw [if_pos (show 0≤b∧b < 18446744073709551616 from hb),show K+400=K+199+201 by omega,Ref_check_all b s kind hb (K+199),show K+199+201=K+400 by omega]
  obtain ⟨e,he⟩ :=Shw.check_some b s kind
  rw [he]
  simp only [Option.bind_some]
  by_cases c:e=0
  · rw [if_pos c,if_neg (show ¬ (e≠0) from fun h=>h c)]
    unfold Shw.ftext
    by_cases hs:s=true
    · rw [if_pos hs,if_pos hs]
    · rw [if_neg hs,if_neg hs,show K+400=K+265+135 by omega]
      have hf:=Shw.rfirst b s hb 0 (K+265)
      rw [show (((0:Nat):Int))=0 from rfl] at hf
      rw [hf]
      simp only [Option.bind_some]
      rw [show K+265+135=K+400 by omega,Shw.rloop b s hb K]
      rfl
  · rw [if_neg c,if_pos c]
/-- The document's spec: as the program's. -/
theorem Shw.rspec_step (l : List S24) (hl : l.length = 5) (k i j : Nat) (hj : j = i + 1) (hi : i < 5) (acc t : ByteArray) (e : Int) (ha : acc.size ≤ 4000) (ht : t.size ≤ 400)
    (hq:complineref20_Field.f k (rd_T24 l (i:Int)).f0 (rd_T24 l (i:Int)).f1 (i:Int)=some (t,e)) :
    complineref20_Spec.l0 (k+1) acc l (i:Int)=complineref20_Spec.l0 k (if i=0 then acc ++ t else acc ++ (⟨#[32]⟩:ByteArray) ++ t) l (j:Int):=by
  subst hj
  have hw:wrap64 ((i:Int)+1)=((i+1:Nat):Int):=by unfold wrap64; omega
  have s1:(⟨#[32]⟩:ByteArray).size=1:=rfl
  rw [complineref20_Spec.l0,if_pos (by omega),if_pos (by omega),if_pos (by omega),hq]
  simp only [Option.bind_some]
  rw [hw]
  by_cases c:i=0
  · rw [if_neg (by omega),if_pos c,if_pos (by omega)]
  · rw [if_pos (by omega),if_neg c,if_pos (by omega),if_pos (by rw [ByteArray.size_append,s1]; omega)]
theorem Shw.rspec (b0:Int)(s0:Bool)(b1:Int)(s1:Bool)(b2:Int)(s2:Bool)(b3:Int)(s3:Bool)(b4:Int)(s4:Bool)(u0:InU b0)(u1:InU b1)(u2:InU b2)(u3:InU b3)(u4:InU b4)(K:Nat):complineref20_Spec.f (K+600) b0 s0 b1 s1 b2 s2 b3 s3 b4 s4=show_Spec.f b0 s0 b1 s1 b2 s2 b3 s3 b4 s4:=by
  unfold complineref20_Spec.f
  obtain ⟨n,e,h1,h2⟩ :=SC_refK b0 s0 b1 s1 b2 s2 b3 s3 b4 s4 (K+394) u0 u1 u2 u3 u4
  rw [show K+394+206=K+600 by omega] at h2
  rw [h2,Shw.spec_f u0 u1 u2 u3 u4]
  simp only [Option.bind_some]
  rcases Shw.check_cases _ _ _ _ _ _ _ _ _ _ _ _ h1 with ⟨q,_,_⟩ | ⟨rfl,rfl,c0,c1,c2,c3,c4⟩
  · rw [if_neg q]
    unfold Shw.spec
    rw [h1]
    simp only [Option.bind_some]
    rw [if_pos q]
  · rw [if_pos rfl,Shw.spec_ok c0 c1 c2 c3 c4]
    unfold complineref19_Fields.f
    simp only [Option.bind_some]
    obtain ⟨l,hl⟩:∃ l:List S24,([(⟨b0,s0⟩:S24),(⟨b1,s1⟩:S24),(⟨b2,s2⟩:S24),(⟨b3,s3⟩:S24),(⟨b4,s4⟩:S24)]:List S24)=l:=⟨_,rfl⟩
    have hlen:l.length=5:=by rw [← hl]; rfl
    have r0:rd_T24 l ((0:Nat):Int)=⟨b0,s0⟩ :=by rw [← hl]; rfl
    have r1:rd_T24 l ((1:Nat):Int)=⟨b1,s1⟩ :=by rw [← hl]; rfl
    have r2:rd_T24 l ((2:Nat):Int)=⟨b2,s2⟩ :=by rw [← hl]; rfl
    have r3:rd_T24 l ((3:Nat):Int)=⟨b3,s3⟩ :=by rw [← hl]; rfl
    have r4:rd_T24 l ((4:Nat):Int)=⟨b4,s4⟩ :=by rw [← hl]; rfl
    have fl:∀ (b:Int) (s:Bool) (kind:Int) (u:InU b) (c:field_Check.f b s kind=some 0) (k:Nat),complineref20_Field.f (k+400) b s kind=some (Shw.ftext b s,0):=fun b s kind u c k=>by
      rw [Shw.rfield b s kind u k]
      exact Shw.fieldF_ok u c
    have ft:=Shw.ftext_le
    rw [hl,show complineref20_Spec.l0 (K+600) ⟨#[]⟩ l 0=complineref20_Spec.l0 (K+599+1) ⟨#[]⟩ l ((0:Nat):Int) from rfl]
    rw [Shw.rspec_step l hlen (K+599) 0 1 rfl (by omega) _ (Shw.ftext b0 s0) 0 (by decide) (ft b0 s0) (by rw [r0]; exact fl b0 s0 0 u0 c0 (K+199)),if_pos rfl]
    have e0:(⟨#[]⟩:ByteArray) ++ Shw.ftext b0 s0=Shw.ftext b0 s0:=by apply B_ext; simp
    rw [e0]
    have t0:=ft b0 s0
    have t1:=ft b1 s1
    have t2:=ft b2 s2
    have t3:=ft b3 s3
    have s32:(⟨#[32]⟩:ByteArray).size=1:=rfl
    rw [Shw.rspec_step l hlen (K+598) 1 2 rfl (by omega) _ (Shw.ftext b1 s1) 0 (by omega) (ft b1 s1) (by rw [r1]; exact fl b1 s1 1 u1 c1 (K+198)),if_neg (by decide)]
    rw [Shw.rspec_step l hlen (K+597) 2 3 rfl (by omega) _ (Shw.ftext b2 s2) 0 (by simp only [ByteArray.size_append]; omega) (ft b2 s2) (by rw [r2]; exact fl b2 s2 2 u2 c2 (K+197)),if_neg (by decide)]
    rw [Shw.rspec_step l hlen (K+596) 3 4 rfl (by omega) _ (Shw.ftext b3 s3) 0 (by simp only [ByteArray.size_append]; omega) (ft b3 s3) (by rw [r3]; exact fl b3 s3 3 u3 c3 (K+196)),if_neg (by decide)]
    rw [Shw.rspec_step l hlen (K+595) 4 5 rfl (by omega) _ (Shw.ftext b4 s4) 0 (by simp only [ByteArray.size_append]; omega) (ft b4 s4) (by rw [r4]; exact fl b4 s4 4 u4 c4 (K+195)),if_neg (by decide)]
    rw [show K+595=(K+594)+1 from rfl,complineref20_Spec.l0,if_neg (by decide)]
    rfl
theorem Shw.rtidy (s:ByteArray)(K:Nat):complineref20_Tidy.f (K+200000) s=show_Tidy.f s:=by
  unfold complineref20_Tidy.f show_Tidy.f
  rw [show K+200000=K+199994+6 by omega,rspec_k s (K+199994) (by omega)]
  rcases Shw.parse_cases s with ⟨n,e,h,q,q1,q2⟩ | ⟨b0,s0,b1,s1,b2,s2,b3,s3,b4,s4,h,⟨u0,u1,u2,u3,u4⟩,c0,c1,c2,c3,c4⟩
  · rw [h]
    simp only [Option.bind_some]
    rw [if_neg q,if_neg q]
  · rw [h]
    simp only [Option.bind_some,if_true]
    rw [show K+199994+6=K+199400+600 by omega,Shw.rspec b0 s0 b1 s1 b2 s2 b3 s3 b4 s4 u0 u1 u2 u3 u4 (K+199400)]
end Go.Proofs.YtcmmmlenaahaeaaGreatDoor.PShw
