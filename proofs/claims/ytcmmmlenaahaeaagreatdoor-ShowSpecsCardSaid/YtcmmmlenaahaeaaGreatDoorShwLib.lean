/- What show tells, as plain numbers. No condition. -/
import Derived.Test.YtcmmmlenaahaeaaGreatDoorPShwx4
import Derived.Test.YtcmmmlenaahaeaaGreatDoorPShwx6
import Derived.Test.YtcmmmlenaahaeaaGreatDoorPShwx8
import Derived.Test.YtcmmmlenaahaeaaGreatDoorPShwx9
import Derived.Test.YtcmmmlenaahaeaaGreatDoorPShwx10
import Derived.Test.YtcmmmlenaahaeaaGreatDoorPShwx11
namespace Go.Proofs.YtcmmmlenaahaeaaGreatDoor.PShw
open Go.RowKit Go.Proofs.YtcmmmlenaahaeaaGreatDoorW.PrintWords Go.Proofs.YtcmmmlenaahaeaaGreatDoorW.PrintLast Go.Proofs.YtcmmmlenaahaeaaGreatDoorW.PrintMore
set_option linter.unusedVariables false
set_option linter.unusedSimpArgs false
/-! Bits of a whole number, and what field's functions tell of them. -/
theorem u64w (z:Int):IntKind.u64.wrap z=z % 18446744073709551616:=by simp [IntKind.wrap,IntKind.bits,IntKind.signed]
def InU (b:Int):Prop:=0≤b∧b < 18446744073709551616
/-- Bit i of a whole number. -/
def bitAt (b:Int)(i:Nat):Bool:=b.toNat.testBit i
theorem nat_of (b:Int)(h:InU b):∃ n:Nat,b=n∧n < 2 ^ 64:=by
  obtain ⟨n,rfl⟩ :=Int.eq_ofNat_of_zero_le h.1
  exact ⟨n,rfl,by have:=h.2; omega⟩
theorem bits_u64 (a b:Nat)(ha:a < 2 ^ 64)(hb:b < 2 ^ 64):Go.bits .and .u64 a b=((a &&& b:Nat):Int)∧Go.bits .or .u64 a b=((a ||| b:Nat):Int):=
  bits_nat .u64 64 (by decide) (fun z h0 h1=>IntWalk.u64_in z ⟨h0,by omega⟩) a b ha hb
theorem put_nat (n:Nat)(x:Fin 64)(hn:n < 2 ^ 64):Fld.put (n:Int) x=((n ||| 2 ^ x.val:Nat):Int):=by
  unfold Fld.put
  have h2:(2:Int) ^ x.val=((2 ^ x.val:Nat):Int):=by simp
  rw [h2,(bits_u64 n _ hn (Nat.pow_lt_pow_right (by decide) x.isLt)).2]
theorem put_in {b:Int}(x:Fin 64)(h:InU b):InU (Fld.put b x):=Fld.put_bd x h
theorem bit_put {b:Int}(x:Fin 64)(h:InU b)(i:Nat):bitAt (Fld.put b x) i=(bitAt b i || decide (x.val=i)):=by
  obtain ⟨n,rfl,hn⟩ :=nat_of b h
  rw [put_nat n x hn]
  unfold bitAt
  rw [Int.toNat_natCast,Int.toNat_natCast,Nat.testBit_or,Nat.testBit_two_pow]
theorem fold_in (l:List (Fin 64)):∀ {b:Int},InU b→InU (l.foldl Fld.put b):=by
  induction l with
  | nil=>exact fun h=>h
  | cons x l ih=>exact fun h=>ih (put_in x h)
theorem bit_fold (l:List (Fin 64)):∀ {b:Int},InU b→∀ i:Nat,bitAt (l.foldl Fld.put b) i=(bitAt b i || l.any fun x=>decide (x.val=i)):=by
  induction l with
  | nil=>intro b _ i; simp
  | cons x l ih=>intro b h i; rw [List.foldl_cons,ih (put_in x h),bit_put x h,List.any_cons,Bool.or_assoc]
theorem eq_of_bits {a b:Int}(ha:InU a)(hb:InU b)(h:∀ i,i < 64→bitAt a i=bitAt b i):a=b:=by
  obtain ⟨n,rfl,hn⟩ :=nat_of a ha
  obtain ⟨m,rfl,hm⟩ :=nat_of b hb
  have:n=m:=by
    apply Nat.eq_of_testBit_eq
    intro i
    by_cases hi:i < 64
    · exact h i hi
    · rw [Nat.testBit_lt_two_pow (Nat.lt_of_lt_of_le hn (Nat.pow_le_pow_right (by decide) (by omega))),Nat.testBit_lt_two_pow (Nat.lt_of_lt_of_le hm (Nat.pow_le_pow_right (by decide) (by omega)))]
  rw [this]
theorem bit_zero (i:Nat):bitAt 0 i=false:=by simp [bitAt]
/-- All values from one to another one. -/
def evB (lo hi:Nat):Int:=((2 ^ (hi+1) - 2 ^ lo:Nat):Int)
theorem shl_one (n:Nat)(h:n < 64):shl .u64 1 (n:Int)=((2 ^ n:Nat):Int):=by
  have:=Nat.pow_lt_pow_right (a:=2) (by decide) h
  unfold shl
  rw [u64w,show min ((n:Int).toNat) (IntKind.bits .u64)=n by simp [IntKind.bits]; omega]
  simp only [Int.one_mul]
  rw [show (2:Int) ^ n=((2 ^ n:Nat):Int) by simp]
  rw [show (2:Nat) ^ 64=18446744073709551616 by decide] at this
  generalize (2:Nat) ^ n=q at this ⊢
  omega
theorem every_f (lo hi:Nat)(h:lo≤hi)(h2:hi≤62):field_every.f (lo:Int) (hi:Int)=some (evB lo hi):=by
  have hw1:wrap64 ((hi:Int)+1)=((hi+1:Nat):Int):=by unfold wrap64; omega
  have hw2:IntKind.u64.wrap ((hi+1:Nat):Int)=((hi+1:Nat):Int):=by rw [u64w]; omega
  have hw3:IntKind.u64.wrap (lo:Int)=(lo:Int):=by rw [u64w]; omega
  unfold field_every.f
  rw [hw1,hw2,hw3,if_pos (by omega),if_pos (by omega),shl_one _ (by omega),shl_one _ (by omega)]
  have h3:2 ^ lo≤2 ^ (hi+1):=Nat.pow_le_pow_right (by decide) (by omega)
  have h4:2 ^ (hi+1)≤2 ^ 63:=Nat.pow_le_pow_right (by decide) (by omega)
  congr 1
  unfold evB
  rw [u64w]
  rw [show (2:Nat) ^ 63=9223372036854775808 by decide] at h4
  generalize (2:Nat) ^ (hi+1)=q at h3 h4 ⊢
  generalize (2:Nat) ^ lo=r at h3 ⊢
  omega
theorem Lex.extract_data (s:ByteArray)(a b:Nat):(s.extract a b).data.toList=(s.data.toList.drop a).take (b - a):=by
  rw [ByteArray.data_extract]; simp
def Lex.lowB (c:UInt8):UInt8:=UInt8.ofNat (Lex.lowI c.toNat).toNat
theorem Lex.lowS_data (s:ByteArray):(Lex.lowS s).data.toList=s.data.toList.map Lex.lowB:=by
  unfold Lex.lowS strOfNums bytesOf
  simp [Lex.lowB]
/-! Splitting and cutting, over lists of bytes. -/
def L2B (l:List UInt8):ByteArray:=⟨l.toArray⟩
theorem B_ext {a b:ByteArray}(h:a.data.toList=b.data.toList):a=b:=by
  cases a; cases b
  congr
  exact Array.ext' h
theorem L2B_list (l:List UInt8):(L2B l).data.toList=l:=rfl
theorem L2B_of (s:ByteArray):L2B s.data.toList=s:=B_ext rfl
theorem toList_of (s:ByteArray):s.toList=s.data.toList:=ByteArray.toList_eq s
def addHead (x:UInt8):List (List UInt8)→List (List UInt8)
  | []=>[[x]]
  | h :: t=>(x :: h) :: t
def sp (c:UInt8):List UInt8→List (List UInt8)
  | []=>[[]]
  | x :: l=>if x=c then [] :: sp c l else addHead x (sp c l)
theorem splitK_eq (c:UInt8)(k:Nat)(l:List UInt8):Lib.splitK [c] 0 (k+1) (c :: l)=[] :: Lib.splitK [c] 0 k l:=by
  have h:Lib.index (c :: l) [c]=0:=by rw [Lib.index_one]; simp [Lib.indexByte]
  simp [Lib.splitK,h]
theorem splitK_ne (c x:UInt8)(hx:x≠c)(k:Nat)(l:List UInt8):Lib.splitK [c] 0 k (x :: l)=addHead x (Lib.splitK [c] 0 k l):=by
  cases k with
  | zero=>rfl
  | succ k=>
    have hi:Lib.index (x :: l) [c]=if Lib.index l [c] == -1 then -1 else Lib.index l [c]+1:=by
      rw [Lib.index_one,Lib.index_one,Lib.indexByte,if_neg (by simpa using hx)]
    simp only [Lib.splitK]
    rcases Lib.index_spec l [c] with ⟨h,_⟩ | ⟨i,h,_⟩
    · rw [hi,h]; rfl
    · have h1:(Lib.index l [c] == -1)=false:=by rw [h]; simp
      have h2:(Lib.index (x :: l) [c] == -1)=false:=by rw [hi,h1]; simp [h]; omega
      rw [h2,h1,if_neg (by simp),if_neg (by simp)]
      rw [hi,h1,if_neg (by simp),h]
      have e:((i:Int)+1).toNat=i+1:=by omega
      simp [e,addHead]
theorem split_sp (c:UInt8):∀ l:List UInt8,Lib.splitK [c] 0 (Lib.count l [c]) l=sp c l
  | []=>rfl
  | x :: l=>by
    unfold sp
    by_cases hx:x=c
    · subst hx
      rw [if_pos rfl,Lib.count_cons_eq,Nat.add_comm,splitK_eq,split_sp x l]
    · rw [if_neg hx,Lib.count_cons_ne x c l hx,splitK_ne c x hx,split_sp c l]
theorem parts_sp (c:UInt8)(s:ByteArray):Fld.parts c s=(sp c s.data.toList).map L2B:=by
  have h:=Lib.splitB_data ⟨#[c]⟩ 0 (Lib.countB s ⟨#[c]⟩) s
  rw [show (⟨#[c]⟩:ByteArray).data.toList=[c] from rfl,show Lib.countB s ⟨#[c]⟩=Lib.count s.data.toList [c] from rfl,split_sp] at h
  rw [← h,List.map_map]
  show Fld.parts c s=List.map _ (Fld.parts c s)
  conv=>lhs; rw [← List.map_id (Fld.parts c s)]
  exact List.map_congr_left (fun x _=>(L2B_of x).symm)
theorem sp_none (c:UInt8):∀ l:List UInt8,c ∉ l→sp c l=[l]
  | [],_=>rfl
  | x :: l,h=>by
    unfold sp
    rw [if_neg (fun e=>h (by rw [e]; exact List.mem_cons_self ..)),sp_none c l (fun hc=>h (List.mem_cons_of_mem _ hc))]
    rfl
theorem sp_ne (c:UInt8):∀ l:List UInt8,sp c l≠[]
  | [],h=>by cases h
  | x :: l,h=>by
    unfold sp at h
    split at h
    · cases h
    · unfold addHead at h
      split at h <;> cases h
theorem sp_append (c:UInt8):∀ (s t:List UInt8),sp c (s ++ c :: t)=sp c s ++ sp c t
  | [],t=>by simp [sp]
  | x :: s,t=>by
    have e1:∀ l,sp c (x :: l)=if x=c then [] :: sp c l else addHead x (sp c l):=fun l=>rfl
    rw [List.cons_append,e1,e1]
    by_cases hx:x=c
    · rw [if_pos hx,if_pos hx,sp_append c s t]; rfl
    · rw [if_neg hx,if_neg hx,sp_append c s t]
      cases h:sp c s with
      | nil=>exact absurd h (sp_ne c s)
      | cons a b=>rfl
theorem contains_iff (c:UInt8)(l:List UInt8):Lib.contains l [c]=true↔c ∈ l:=by
  unfold Lib.contains
  rw [Lib.index_one,decide_eq_true_eq]
  induction l with
  | nil=>simp [Lib.indexByte]
  | cons x l ih=>
    unfold Lib.indexByte
    by_cases hx:x=c
    · subst hx; simp
    · rw [if_neg (by simpa using hx)]
      have hm:c ∈ x :: l↔c ∈ l:=by simp [Ne.symm hx]
      rw [hm,← ih]
      by_cases h:Lib.indexByte l c=-1
      · rw [h]; simp
      · rw [if_neg (by simpa using h)]
        have:Lib.index l [c]=Lib.indexByte l c:=Lib.index_one l c
        rcases Lib.index_spec l [c] with ⟨h',_⟩ | ⟨i,h',_⟩
        · omega
        · omega
theorem cut_none (l:List UInt8)(h:(47:UInt8) ∉ l):Lib.cut l [47]=(l,[],false):=by
  have:¬ (0≤Lib.index l [47]):=fun hi=>h ((contains_iff 47 l).1 (decide_eq_true hi))
  unfold Lib.cut
  rw [if_neg this]
theorem index_app (c:UInt8)(s t:List UInt8)(h:c ∉ s):Lib.index (s ++ c :: t) [c]=s.length:=by
  rw [Lib.index_one]
  induction s with
  | nil=>simp [Lib.indexByte]
  | cons x s ih=>
    have hx:x≠c:=fun e=>h (by rw [e]; exact List.mem_cons_self ..)
    rw [List.cons_append,Lib.indexByte,if_neg (by simpa using hx),ih (fun hc=>h (List.mem_cons_of_mem _ hc))]
    rw [if_neg (by simp),List.length_cons]
    omega
theorem cut_app (s t:List UInt8)(h:(47:UInt8) ∉ s):Lib.cut (s ++ 47 :: t) [47]=(s,t,true):=by
  unfold Lib.cut
  rw [index_app 47 s t h,if_pos (by omega)]
  simp
/-! What a value's text does not hold. -/
def Plain (l:List UInt8):Prop:=∀ c ∈ l,c≠44∧c≠45∧c≠47∧c≠42
theorem digs_plain:∀ (l:List UInt8)(n m:Int),Lex.digs l n=some m→Plain l
  | [],_,_,_=>fun c hc=>by cases hc
  | x :: l,n,m,h=>by
    simp only [Lex.digs] at h
    split at h
    · rename_i hd
      have hb:48≤x.toNat∧x.toNat≤57:=by simpa [Lex.dig] using hd
      intro c hc
      rcases List.mem_cons.1 hc with rfl | hc
      · exact ⟨by rintro rfl; revert hb; decide,by rintro rfl; revert hb; decide,by rintro rfl; revert hb; decide,by rintro rfl; revert hb; decide⟩
      · exact digs_plain l _ m h c hc
    · cases h
theorem number_plain (s:ByteArray)(h:(Lex.number s).2=0):Plain s.data.toList:=by
  unfold Lex.number at h
  split at h
  · exact absurd h (by decide)
  · split at h
    · rename_i n hn; exact digs_plain _ _ _ hn
    · exact absurd h (by decide)
theorem Lex.srch_hit (p:Nat→Bool)(n:Nat):∀ (k i:Nat),k+i=n→Lex.srch p k i < n→p (Lex.srch p k i)=true
  | 0,i,h,hl=>by simp only [Lex.srch] at hl; omega
  | k+1,i,h,hl=>by
    simp only [Lex.srch] at hl ⊢
    split
    · assumption
    · rename_i hp
      rw [if_neg hp] at hl
      exact Lex.srch_hit p n k (i+1) (by omega) hl
theorem name_plain (s:ByteArray)(kind:Int)(h:(Lex.name s kind).2=0):Plain s.data.toList:=by
  unfold Lex.name at h
  split at h
  · exact absurd h (by decide)
  rename_i h3
  unfold Lex.look at h
  split at h
  rotate_left
  · exact absurd h (by decide)
  rename_i hj
  generalize hnm:(Lex.namesOf kind).1=nm at hj
  generalize hn:(Lex.namesOf kind).2.1=n at hj
  have hlet:∀ b ∈ nm.data.toList,97≤b.toNat:=by
    rw [← hnm]
    unfold Lex.namesOf
    split
    · decide +kernel
    · split
      · decide +kernel
      · intro b hb; cases hb
  have hhit:Lex.hit nm (Lex.lowS s) (Lex.srch (Lex.hit nm (Lex.lowS s)) n 0)=true:=Lex.srch_hit _ n n 0 (by omega) hj
  unfold Lex.hit at hhit
  rw [beq_iff_eq,toList_of,toList_of,Lex.lowS_data,Lex.extract_data] at hhit
  intro c hc
  have hm:Lex.lowB c ∈ s.data.toList.map Lex.lowB:=List.mem_map.2 ⟨c,hc,rfl⟩
  rw [← hhit] at hm
  have:=hlet _ (List.mem_of_mem_drop (List.mem_of_mem_take hm))
  exact ⟨by rintro rfl; revert this; decide,by rintro rfl; revert this; decide,by rintro rfl; revert this; decide,by rintro rfl; revert this; decide⟩
theorem value_plain (s:ByteArray)(kind:Int)(h:(Lex.value s kind).2=0):Plain s.data.toList:=by
  unfold Lex.value at h
  split at h
  · rename_i hk; exact absurd h hk
  unfold Lex.fin at h
  split at h
  · exact absurd h (by decide)
  unfold Lex.read at h
  split at h
  · exact number_plain s h
  · exact name_plain s kind h
/-! What field.Parse tells of a text. -/
theorem vals_mem (kind tt by_:Int)(hb:1≤by_):∀ (f:Nat) (v:Int) (x:Fin 64),(tt+1 - v).toNat≤f→(x ∈ Fld.vals kind tt by_ f v↔∃ u,v≤u∧u≤tt∧(u - v) % by_=0∧x=Fld.day kind u)
  | 0,v,x,h=>by
    simp only [Fld.vals,List.not_mem_nil,false_iff]
    rintro ⟨u,h1,h2,_⟩
    omega
  | f+1,v,x,h=>by
    unfold Fld.vals
    by_cases hv:v≤tt
    · rw [if_pos hv,List.mem_cons,vals_mem kind tt by_ hb f (v+by_) x (by omega)]
      constructor
      · rintro (rfl | ⟨u,h1,h2,h3,rfl⟩)
        · exact ⟨v,Int.le_refl _,hv,by simp,rfl⟩
        · refine ⟨u,by omega,h2,?_,rfl⟩
          rw [show u - v=(u - (v+by_))+by_ by omega,Int.add_emod_right]
          exact h3
      · rintro ⟨u,h1,h2,h3,rfl⟩
        by_cases hu:u=v
        · subst hu; exact .inl rfl
        · refine .inr ⟨u,?_,h2,?_,rfl⟩
          · have:=Int.emod_nonneg (u - v) (show by_≠0 by omega)
            by_cases hlt:u - v < by_
            · rw [Int.emod_eq_of_lt (by omega) hlt] at h3; omega
            · omega
          · rw [show u - v=(u - (v+by_))+by_ by omega,Int.add_emod_right] at h3
            exact h3
    · rw [if_neg hv]
      constructor
      · intro h; cases h
      · rintro ⟨u,h1,h2,_⟩; omega
/-- The greatest value of a field. -/
def top (kind:Int):Int:=if kind=4 then 6 else (Lex.limits kind).2.1
theorem day_val (kind u:Int)(h0:0≤u)(h1:u < 64):((Fld.day kind u).val:Int)=if kind=4 then u % 7 else u:=by
  by_cases hk:kind=4
  · subst hk; rw [if_pos rfl]; exact Fld.day_week h0
  · rw [if_neg hk]; exact Fld.day_plain hk h0 h1
theorem day_in (kind u:Int)(hk:(Lex.limits kind).2.2=0)(h0:(Lex.limits kind).1≤u)(h1:u≤(Lex.limits kind).2.1):(Lex.limits kind).1≤(Fld.day kind u).val∧((Fld.day kind u).val:Int)≤top kind:=by
  have hl:=Fld.limits_bd kind hk
  rw [day_val kind u (by omega) (by omega)]
  unfold top
  by_cases h4:kind=4
  · subst h4
    have e:Lex.limits 4=(0,7,0):=by decide
    rw [e] at h0 h1 ⊢
    rw [if_pos rfl,if_pos rfl]
    dsimp only at *
    omega
  · rw [if_neg h4,if_neg h4]; omega
theorem item_L (x : ByteArray) (kind : Int) (y : Fin 64) (hk : (Lex.limits kind).2.2 = 0) (h : (Fld.itemP x kind).2.2.2 = 0) :
    (y ∈ Fld.itemL x kind↔∃ u,(Fld.itemP x kind).1≤u∧u≤(Fld.itemP x kind).2.1∧(u - (Fld.itemP x kind).1) % (Fld.itemP x kind).2.2.1=0∧y=Fld.day kind u):=by
  obtain ⟨_,_,_,_,_,_,b1,b2,b3,b4,b5⟩ :=Fld.item_bd x kind hk h
  exact vals_mem kind _ _ b4 _ _ y (Nat.le_refl _)
/-- An item that is right goes from a value to one that is no less, within its kind's limits. -/
theorem item_in (x : ByteArray) (kind : Int) (hk : (Lex.limits kind).2.2 = 0) (h : (Fld.itemP x kind).2.2.2 = 0) :
    (Lex.limits kind).1≤(Fld.itemP x kind).1∧(Fld.itemP x kind).1≤(Fld.itemP x kind).2.1∧(Fld.itemP x kind).2.1≤(Lex.limits kind).2.1:=by
  obtain ⟨_,h2,_,q1,q2,_,_⟩ :=Fld.item_bd x kind hk h
  rw [q1,q2]
  have hl:=Fld.limits_bd kind hk
  unfold Fld.valuesP at h2 ⊢
  split
  · dsimp only; omega
  · rename_i hst
    rw [if_neg hst] at h2
    have hlen:(Fld.parts 45 (Fld.cutL x).1).length=1∨(Fld.parts 45 (Fld.cutL x).1).length=2:=Fld.split_len (by assumption)
    generalize Fld.parts 45 (Fld.cutL x).1=P at h2 hlen ⊢
    match P,h2,hlen with
    | [],_,hlen=>simp at hlen
    | [y],h2,_=>have:=Fld.value_bd y kind h2; dsimp only; omega
    | [y,z],h2,_=>
      dsimp only at h2 ⊢
      split at h2
      · omega
      · rename_i hy
        split at h2
        · omega
        · rename_i hz
          have h5:=Fld.value_bd y kind (by simpa using hy)
          have h6:=Fld.value_bd z kind (by simpa using hz)
          split at h2
          · omega
          · omega
    | _ :: _ :: _ :: _,_,hlen=>simp at hlen
theorem fold_mem (l:List (Fin 64)){b:Int}(hb:InU b)(i:Nat):bitAt (l.foldl Fld.put b) i=true↔bitAt b i=true∨∃ y ∈ l,y.val=i:=by
  rw [bit_fold l hb,Bool.or_eq_true,List.any_eq_true]
  simp
theorem parseL_ok (kind : Int) (hk : (Lex.limits kind).2.2 = 0) : ∀ (L : List ByteArray) (b : Int), InU b → (Fld.parseL kind L b).2 = 0 →
    InU (Fld.parseL kind L b).1∧(∀ x ∈ L,(Fld.itemP x kind).2.2.2=0)∧∀ i,bitAt (Fld.parseL kind L b).1 i=true↔bitAt b i=true∨∃ x ∈ L,∃ y ∈ Fld.itemL x kind,y.val=i
  | [],b,hb,_=>⟨hb,(fun x hx=>by cases hx),(fun i=>by simp [Fld.parseL])⟩
  | x :: L,b,hb,h=>by
    unfold Fld.parseL at h ⊢
    by_cases he:(Fld.itemP x kind).2.2.2≠0
    · rw [if_pos he] at h; exact absurd h he
    · rw [if_neg he] at h
      rw [if_neg he]
      obtain ⟨h1,h2,h3⟩ :=parseL_ok kind hk L _ (fold_in _ hb) h
      refine ⟨h1,?_,fun i=>?_⟩
      · intro y hy
        rcases List.mem_cons.1 hy with rfl | hy
        · simpa using he
        · exact h2 y hy
      · rw [h3 i,fold_mem _ hb]
        constructor
        · rintro ((h | ⟨y,hy,e⟩) | ⟨z,hz,y,hy,e⟩)
          · exact .inl h
          · exact .inr ⟨x,List.mem_cons_self ..,y,hy,e⟩
          · exact .inr ⟨z,List.mem_cons_of_mem _ hz,y,hy,e⟩
        · rintro (h | ⟨z,hz,y,hy,e⟩)
          · exact .inl (.inl h)
          · rcases List.mem_cons.1 hz with rfl | hz
            · exact .inl (.inr ⟨y,hy,e⟩)
            · exact .inr ⟨z,hz,y,hy,e⟩
theorem parts_ne (c:UInt8)(s:ByteArray):Fld.parts c s≠[]:=by
  intro h
  have:=Fld.parts_len c s
  rw [h] at this
  simp at this
/-- What a field that was parsed is. -/
theorem parse_in (s : ByteArray) (kind : Int) (h : (Fld.parse s kind).2.2 = 0) :
    (Lex.limits kind).2.2=0∧InU (Fld.parse s kind).1∧(Fld.parse s kind).2.1=(s.toList == [42])∧(∀ i:Nat,bitAt (Fld.parse s kind).1 i=true→(Lex.limits kind).1≤i∧(i:Int)≤top kind)∧(∃ i,bitAt (Fld.parse s kind).1 i=true)∧
    (∀ i,bitAt (Fld.parse s kind).1 i=true↔∃ x ∈ Fld.parts 44 s,∃ y ∈ Fld.itemL x kind,y.val=i)∧(Fld.parseL kind (Fld.parts 44 s) 0).2=0∧(Fld.parse s kind).1=(Fld.parseL kind (Fld.parts 44 s) 0).1:=by
  unfold Fld.parse at h ⊢
  by_cases hk:(Lex.limits kind).2.2≠0
  · rw [if_pos hk] at h; exact absurd h hk
  rw [if_neg hk] at h
  rw [if_neg hk]
  have hk':(Lex.limits kind).2.2=0:=by simpa using hk
  by_cases he:(Fld.parseL kind (Fld.parts 44 s) 0).2≠0
  · rw [if_pos he] at h; exact absurd h he
  rw [if_neg he]
  have he':(Fld.parseL kind (Fld.parts 44 s) 0).2=0:=by simpa using he
  obtain ⟨h1,h2,h3⟩ :=parseL_ok kind hk' (Fld.parts 44 s) 0 (by unfold InU; decide) he'
  have h4:∀ i,bitAt (Fld.parseL kind (Fld.parts 44 s) 0).1 i=true↔∃ x ∈ Fld.parts 44 s,∃ y ∈ Fld.itemL x kind,y.val=i:=fun i=>by rw [h3 i,bit_zero]; simp
  refine ⟨hk',h1,rfl,?_,?_,h4,he',rfl⟩
  · intro i hi
    obtain ⟨x,hx,y,hy,rfl⟩ :=(h4 i).1 hi
    have hi0:=item_in x kind hk' (h2 x hx)
    obtain ⟨u,u1,u2,_,rfl⟩ :=(item_L x kind y hk' (h2 x hx)).1 hy
    exact day_in kind u hk' (by omega) (by omega)
  · obtain ⟨x,L,hL⟩ :=List.exists_cons_of_ne_nil (parts_ne 44 s)
    have hx:x ∈ Fld.parts 44 s:=by rw [hL]; exact List.mem_cons_self ..
    have hi0:=item_in x kind hk' (h2 x hx)
    refine ⟨(Fld.day kind (Fld.itemP x kind).1).val,(h4 _).2 ⟨x,hx,_,(item_L x kind _ hk' (h2 x hx)).2 ⟨(Fld.itemP x kind).1,Int.le_refl _,hi0.2.1,by simp,rfl⟩,rfl⟩⟩
/-- A value alone. -/
theorem item_value (s:ByteArray)(kind:Int)(h:(Lex.value s kind).2=0):Fld.itemP s kind=((Lex.value s kind).1,(Lex.value s kind).1,1,0):=by
  have hp:=value_plain s kind h
  have h47:(47:UInt8) ∉ s.data.toList:=fun hm=>(hp _ hm).2.2.1 rfl
  have h45:(45:UInt8) ∉ s.data.toList:=fun hm=>(hp _ hm).2.1 rfl
  have hc:Fld.cutL s=(s,⟨#[]⟩,false):=by
    unfold Fld.cutL
    rw [cut_none _ h47]
  have hpt:Fld.parts 45 s=[s]:=by rw [parts_sp,sp_none 45 _ h45]; exact congrArg (fun z=>[z]) (L2B_of s)
  have hs:Fld.splitE s=0:=by
    unfold Fld.splitE
    rw [hc,hpt]
    rw [if_neg (by simp; decide),if_neg (by simp)]
  have hst:¬ s.toList=[42]:=by
    rw [toList_of]; intro e
    exact (hp 42 (by rw [e]; simp)).2.2.2 rfl
  unfold Fld.itemP
  rw [if_neg (by simp [hs]),hc,hpt]
  have hv:Fld.valuesP s [s] kind=((Lex.value s kind).1,(Lex.value s kind).1,(Lex.value s kind).2):=by unfold Fld.valuesP; rw [if_neg hst]
  rw [hv]
  dsimp only
  rw [if_neg (by simp [h]),show Fld.stepP ⟨#[]⟩ false=(1,0) from rfl]
  simp
theorem parse_value (s:ByteArray)(kind:Int)(h:(Lex.value s kind).2=0):Fld.parse s kind=(Fld.put 0 (Fld.day kind (Lex.value s kind).1),false,0):=by
  have hp:=value_plain s kind h
  have h44:(44:UInt8) ∉ s.data.toList:=fun hm=>(hp _ hm).1 rfl
  have hpt:Fld.parts 44 s=[s]:=by rw [parts_sp,sp_none 44 _ h44]; exact congrArg (fun z=>[z]) (L2B_of s)
  have hst:(s.toList == [42])=false:=by
    rw [toList_of,beq_eq_false_iff_ne]; intro e
    exact (hp 42 (by rw [e]; simp)).2.2.2 rfl
  have hb:=Fld.value_bd s kind h
  have hI:Fld.itemL s kind=[Fld.day kind (Lex.value s kind).1]:=by
    unfold Fld.itemL
    rw [item_value s kind h]
    dsimp only
    rw [show ((Lex.value s kind).1+1 - (Lex.value s kind).1).toNat=1 by omega]
    simp [Fld.vals]
  have hL:Fld.parseL kind [s] 0=(Fld.put 0 (Fld.day kind (Lex.value s kind).1),0):=by
    show (if (Fld.itemP s kind).2.2.2≠0 then _ else _)=_
    rw [if_neg (by rw [item_value s kind h]; simp),hI]
    rfl
  unfold Fld.parse
  rw [if_neg (by simp [hb.1]),hpt,hst,hL]
  rfl
theorem check_f (b : Int) (s : Bool) (kind : Int) (lo hi : Nat) (hk : (Lex.limits kind).2.2 = 0) (hlo : (Lex.limits kind).1 = lo) (hhi : top kind = hi) (h1 : lo ≤ hi) (h2 : hi ≤ 59) :
    field_Check.f b s kind=if b=0 then some 2 else if Go.bits .andNot .u64 b (evB lo hi)=0 then (if s=true then (if b=evB lo hi then some 0 else some 2) else some 0) else some 2:=by
  unfold field_Check.f
  rw [Fld.limits_f]
  simp only [Option.bind_some]
  rw [if_pos hk,hlo,show (if kind=4 then 6 else (Lex.limits kind).2.1)=(hi:Int) from hhi,every_f lo hi h1 (by omega)]
  rfl
theorem kinds (kind:Int)(hk:(Lex.limits kind).2.2=0):kind=0∨kind=1∨kind=2∨kind=3∨kind=4:=by
  unfold Lex.limits at hk
  by_cases h0:kind=0
  · exact .inl h0
  by_cases h1:kind=1
  · exact .inr (.inl h1)
  by_cases h2:kind=2
  · exact .inr (.inr (.inl h2))
  by_cases h3:kind=3
  · exact .inr (.inr (.inr (.inl h3)))
  by_cases h4:kind=4
  · exact .inr (.inr (.inr (.inr h4)))
  · rw [if_neg h0,if_neg h1,if_neg h2,if_neg h3,if_neg h4] at hk
    exact absurd hk (by decide)
set_option maxRecDepth 100000 in
theorem parse_star (kind:Int)(lo hi:Nat)(hk:(Lex.limits kind).2.2=0)(hlo:(Lex.limits kind).1=lo)(hhi:top kind=hi):Fld.parse ⟨#[42]⟩ kind=(evB lo hi,true,0):=by
  have key:∀ k:Int,∀ l h:Nat,(Lex.limits k).1=l→top k=h→Fld.parse ⟨#[42]⟩ k=(evB (Lex.limits k).1.toNat (top k).toNat,true,0)→Fld.parse ⟨#[42]⟩ k=(evB l h,true,0):=by
    intro k l h e1 e2 e3
    rw [e3,e1,e2,Int.toNat_natCast,Int.toNat_natCast]
  rcases kinds kind hk with rfl | rfl | rfl | rfl | rfl
  all_goals exact key _ lo hi hlo hhi (by decide +kernel)
theorem plain_app {s t:List UInt8}(h:Plain s)(k:Plain t):∀ c:UInt8,c≠45→c ∈ s ++ 45 :: t→c≠44∧c≠47∧c≠42:=by
  intro c hc hm
  rcases List.mem_append.1 hm with hm | hm
  · have:=h c hm; exact ⟨this.1,this.2.2.1,this.2.2.2⟩
  · rcases List.mem_cons.1 hm with e | hm
    · exact absurd e hc
    · have:=k c hm; exact ⟨this.1,this.2.2.1,this.2.2.2⟩
/-! Two texts with a comma between. -/
theorem parseL_app (kind:Int):∀ (L1 L2:List ByteArray) (b:Int),Fld.parseL kind (L1 ++ L2) b=if (Fld.parseL kind L1 b).2≠0 then (0,(Fld.parseL kind L1 b).2) else Fld.parseL kind L2 (Fld.parseL kind L1 b).1
  | [],L2,b=>by rw [List.nil_append,if_neg (by simp [Fld.parseL])]; rfl
  | x :: L1,L2,b=>by
    have e:∀ M c,Fld.parseL kind (x :: M) c=if (Fld.itemP x kind).2.2.2≠0 then (0,(Fld.itemP x kind).2.2.2) else Fld.parseL kind M ((Fld.itemL x kind).foldl Fld.put c):=fun _ _=>rfl
    rw [List.cons_append,e,e]
    by_cases h:(Fld.itemP x kind).2.2.2≠0
    · rw [if_pos h,if_pos h,if_pos h]
    · rw [if_neg h,if_neg h,parseL_app kind L1 L2]
theorem parseL_err0 (kind:Int):∀ (L:List ByteArray) (b c:Int),(Fld.parseL kind L b).2=(Fld.parseL kind L c).2
  | [],_,_=>rfl
  | x :: L,b,c=>by
    unfold Fld.parseL
    by_cases h:(Fld.itemP x kind).2.2.2≠0
    · rw [if_pos h,if_pos h]
    · rw [if_neg h,if_neg h]
      exact parseL_err0 kind L _ _
theorem comma_list (s t:ByteArray):(s ++ (⟨#[44]⟩:ByteArray) ++ t).data.toList=s.data.toList ++ 44 :: t.data.toList:=by
  rw [ByteArray.data_append,ByteArray.data_append,Array.toList_append,Array.toList_append,List.append_assoc]
  rfl
theorem parts_comma (s t:ByteArray):Fld.parts 44 (s ++ (⟨#[44]⟩:ByteArray) ++ t)=Fld.parts 44 s ++ Fld.parts 44 t:=by
  rw [parts_sp,parts_sp,parts_sp,comma_list,sp_append,List.map_append]
theorem bits_or {a b:Int}(ha:InU a)(hb:InU b):InU (Go.bits .or .u64 a b)∧∀ i,bitAt (Go.bits .or .u64 a b) i=(bitAt a i || bitAt b i):=by
  obtain ⟨n,rfl,hn⟩ :=nat_of a ha
  obtain ⟨m,rfl,hm⟩ :=nat_of b hb
  rw [(bits_u64 n m hn hm).2]
  refine ⟨?_,fun i=>?_⟩
  · have:=Nat.or_lt_two_pow hn hm
    unfold InU
    rw [show (2:Nat) ^ 64=18446744073709551616 by decide] at this
    omega
  · unfold bitAt
    rw [Int.toNat_natCast,Int.toNat_natCast,Int.toNat_natCast,Nat.testBit_or]
theorem both_ok (s t:ByteArray)(kind:Int)(h:(Fld.parse s kind).2.2=0)(h2:(Fld.parse t kind).2.2=0):Fld.parse (s ++ (⟨#[44]⟩:ByteArray) ++ t) kind=(Go.bits .or .u64 (Fld.parse s kind).1 (Fld.parse t kind).1,false,0):=by
  obtain ⟨hk,-⟩ :=parse_in s kind h
  have hst:((s ++ (⟨#[44]⟩:ByteArray) ++ t).toList == [42])=false:=by
    rw [toList_of,comma_list]
    cases hs:s.data.toList with
    | nil=>rfl
    | cons x l=>cases l <;> simp
  unfold Fld.parse at h h2 ⊢
  have hk':¬ (Lex.limits kind).2.2≠0:=by simpa using hk
  rw [if_neg hk'] at h h2
  rw [if_neg hk',if_neg hk',if_neg hk',parts_comma,parseL_app]
  by_cases h1:(Fld.parseL kind (Fld.parts 44 s) 0).2≠0
  · rw [if_pos h1] at h
    exact absurd h h1
  · by_cases h3:(Fld.parseL kind (Fld.parts 44 t) 0).2≠0
    · rw [if_pos h3] at h2
      exact absurd h2 h3
    · have h1':(Fld.parseL kind (Fld.parts 44 s) 0).2=0:=by simpa using h1
      have h3':(Fld.parseL kind (Fld.parts 44 t) 0).2=0:=by simpa using h3
      have h4:(Fld.parseL kind (Fld.parts 44 t) (Fld.parseL kind (Fld.parts 44 s) 0).1).2=0:=(parseL_err0 kind _ _ 0).trans h3'
      have z:InU 0:=by unfold InU; omega
      obtain ⟨i1,-,b1⟩ :=parseL_ok kind hk (Fld.parts 44 s) 0 z h1'
      obtain ⟨i2,-,b2⟩ :=parseL_ok kind hk (Fld.parts 44 t) 0 z h3'
      obtain ⟨i3,-,b3⟩ :=parseL_ok kind hk (Fld.parts 44 t) _ i1 h4
      rw [if_neg h1,if_neg (by simpa using h4),if_neg h1,if_neg h3,hst]
      obtain ⟨i4,b4⟩ :=bits_or i1 i2
      rw [eq_of_bits i3 i4 (fun i _=>by
        rw [b4 i,Bool.eq_iff_iff,b3 i,Bool.or_eq_true,b2 i,bit_zero]
        simp)]
def Lex.mk (l:List UInt8):ByteArray:=⟨l.toArray⟩
theorem Lex.mk_of (s:ByteArray):Lex.mk s.data.toList=s:=by cases s; simp [Lex.mk]
theorem Lex.len (s:ByteArray):s.data.toList.length=s.size:=by rw [Array.length_toList]; rfl
def Lex.blankB (c:UInt8):Bool:=Lex.blankN c.toNat
def Lex.words:List UInt8→List UInt8→List (List UInt8)
  | [],w=>if w=[] then [] else [w]
  | c :: l,w=>if Lex.blankB c then (if w=[] then Lex.words l [] else w :: Lex.words l []) else Lex.words l (w ++ [c])
/-- FieldsFunc of plain letters. -/
theorem Lex.spans_words (s : ByteArray) (ha : ∀ i (h : i < s.size), (s[i]'h).toNat < 128) : ∀ (f pos : Nat) (st : Option Nat) (acc : List (Nat × Nat)), pos ≤ s.size → s.size ≤ pos + f → (∀ a, st = some a → a < pos) →
    (Lib.closeSpans s (Lib.spansFromP Lex.blankN s f pos st acc)).map (fun x=>(s.extract x.1 x.2).data.toList) =
      acc.map (fun x=>(s.extract x.1 x.2).data.toList) ++ Lex.words (s.data.toList.drop pos) (match st with | none=>[] | some a=>(s.data.toList.drop a).take (pos - a)):=by
  intro f
  induction f with
  | zero=>
    intro pos st acc h1 h2 h3
    have hp:pos=s.size:=by omega
    subst hp
    rw [List.drop_of_length_le (l:=s.data.toList) (by rw [Lex.len]; omega)]
    cases st with
    | none=>simp [Lib.spansFromP,Lib.closeSpans,Lex.words]
    | some a=>
      have:=h3 a rfl
      have hne:(s.data.toList.drop a).take (s.size - a)≠[]:=by
        intro e
        have:=congrArg List.length e
        rw [List.length_take,List.length_drop,Lex.len] at this
        simp at this; omega
      simp [Lib.spansFromP,Lib.closeSpans,Lex.words,hne,Lex.extract_data]
  | succ f ih=>
    intro pos st acc h1 h2 h3
    by_cases hlt:pos < s.size
    · have hd:Utf8.decode s pos=((s[pos]'hlt).toNat,1):=decode_ascii s pos hlt (ha pos hlt)
      have hdr:s.data.toList.drop pos=(s[pos]'hlt) :: s.data.toList.drop (pos+1):=by rw [List.drop_eq_getElem_cons (by rw [Lex.len]; exact hlt)]; rfl
      have hb:Lex.blankB (s[pos]'hlt)=Lex.blankN (s[pos]'hlt).toNat:=rfl
      unfold Lib.spansFromP
      rw [if_pos hlt,hd,hdr]
      simp only [Lex.words,hb]
      cases hbb:Lex.blankN (s[pos]'hlt).toNat
      · simp only [Bool.false_eq_true,if_false]
        cases st with
        | none=>
          simp only
          rw [ih (pos+1) (some pos) acc (by omega) (by omega) (by intro a e; cases e; omega)]
          congr 2
          simp only [List.nil_append]
          rw [hdr,show pos+1 - pos=1 by omega]; rfl
        | some a=>
          have:=h3 a rfl
          simp only
          rw [ih (pos+1) (some a) acc (by omega) (by omega) (by intro b e; cases e; omega)]
          congr 2
          simp only
          rw [show pos+1 - a=(pos - a)+1 by omega,List.take_succ_eq_append_getElem (by rw [List.length_drop,Lex.len]; omega)]
          congr 2
          rw [List.getElem_drop]
          have e:a+(pos - a)=pos:=by omega
          simp only [e]
          rfl
      · simp only [if_true]
        cases st with
        | none=>
          simp only
          rw [ih (pos+1) none acc (by omega) (by omega) (by intro a e; cases e)]
          simp
        | some a=>
          have:=h3 a rfl
          have hne:(s.data.toList.drop a).take (pos - a)≠[]:=by
            intro e
            have:=congrArg List.length e
            rw [List.length_take,List.length_drop,Lex.len] at this
            simp at this; omega
          simp only
          rw [ih (pos+1) none (acc ++ [(a,pos)]) (by omega) (by omega) (by intro a e; cases e),if_neg hne]
          simp [Lex.extract_data]
    · have hp:pos=s.size:=by omega
      subst hp
      rw [Lib.spansFromP_end _ _ _ _ _ _ hlt,List.drop_of_length_le (l:=s.data.toList) (by rw [Lex.len]; omega)]
      cases st with
      | none=>simp [Lib.closeSpans,Lex.words]
      | some a=>
        have:=h3 a rfl
        have hne:(s.data.toList.drop a).take (s.size - a)≠[]:=by
          intro e
          have:=congrArg List.length e
          rw [List.length_take,List.length_drop,Lex.len] at this
          simp at this; omega
        simp [Lib.closeSpans,Lex.words,hne,Lex.extract_data]
theorem Lex.known_ascii (s:ByteArray)(h:Lex.knownAll s.data.toList=true):∀ i (hi:i < s.size),(s[i]'hi).toNat < 128:=by
  intro i hi
  have hm:(s[i]'hi) ∈ s.data.toList:=by
    have:s[i]'hi=s.data.toList[i]'(by rw [Lex.len]; exact hi):=rfl
    rw [this]; exact List.getElem_mem _
  have:=List.all_eq_true.1 h _ hm
  rcases Nat.lt_or_ge (s[i]'hi).toNat 128 with h1 | h1
  · exact h1
  · rw [Lex.known_big h1] at this; cases this
theorem Lex.go_words (s:ByteArray)(h:Lex.knownAll s.data.toList=true):Lib.goFieldsP Lex.blankN s=(Lex.words s.data.toList []).map Lex.mk:=by
  have:=Lex.spans_words s (Lex.known_ascii s h) s.size 0 none [] (by omega) (by omega) (by intro a e; cases e)
  simp only [List.map_nil,List.nil_append,List.drop_zero] at this
  rw [← this,List.map_map]
  unfold Lib.goFieldsP Lib.spansOfP
  apply List.map_congr_left
  intro x _
  exact (Lex.mk_of _).symm
def Lex.fieldsL (l:List UInt8):List (List UInt8) × Int:=
  if Lex.knownAll l=false then ([],2) else if (Lex.words l []).length≠5 then ([],2) else (Lex.words l [],0)
theorem Lex.fields_eq (s:ByteArray)(h:s.size≤256):Lex.fields s=((Lex.fieldsL s.data.toList).1.map Lex.mk,(Lex.fieldsL s.data.toList).2):=by
  unfold Lex.fields Lex.fieldsL
  rw [if_neg (by omega)]
  cases hk:Lex.knownAll s.data.toList
  · simp
  · simp only [Bool.true_eq_false,if_false]
    rw [Lex.go_words s hk]
    simp only [List.length_map]
    split <;> simp
/-! Words joined by blanks. -/
theorem Lex.words_run (b:UInt8)(hb:Lex.blankB b=true)(x:List UInt8):∀ (w acc:List UInt8),(∀ c ∈ w,Lex.blankB c=false)→acc ++ w≠[]→Lex.words (w ++ b :: x) acc=(acc ++ w) :: Lex.words x []:=by
  intro w
  induction w with
  | nil=>
    intro acc _ h2
    have h2':acc≠[]:=by simpa using h2
    simp [Lex.words,hb,h2']
  | cons c w ih=>
    intro acc h1 h2
    simp only [List.cons_append,Lex.words]
    rw [h1 c (by simp)]
    simp only [Bool.false_eq_true,if_false]
    rw [ih (acc ++ [c]) (fun d hd=>h1 d (by simp [hd])) (by simp)]
    simp
theorem Lex.words_last:∀ (w acc:List UInt8),(∀ c ∈ w,Lex.blankB c=false)→acc ++ w≠[]→Lex.words w acc=[acc ++ w]:=by
  intro w
  induction w with
  | nil=>
    intro acc _ h2
    have h2':acc≠[]:=by simpa using h2
    simp [Lex.words,h2']
  | cons c w ih=>
    intro acc h1 h2
    simp only [Lex.words]
    rw [h1 c (by simp)]
    simp only [Bool.false_eq_true,if_false]
    rw [ih (acc ++ [c]) (fun d hd=>h1 d (by simp [hd])) (by simp)]
    simp
theorem bit_big {b:Int}(h:InU b){i:Nat}(hi:64≤i):bitAt b i=false:=by
  obtain ⟨n,rfl,hn⟩ :=nat_of b h
  exact Nat.testBit_lt_two_pow (Nat.lt_of_lt_of_le hn (Nat.pow_le_pow_right (by decide) hi))
theorem sub_testBit (lo:Nat):∀ (d i:Nat),(2 ^ (lo+d) - 2 ^ lo).testBit i=(decide (lo≤i) && decide (i < lo+d)):=by
  intro d i
  have e:2 ^ (lo+d) - 2 ^ lo=2 ^ lo*(2 ^ d - 1):=by rw [Nat.pow_add,Nat.mul_sub,Nat.mul_one]
  rw [e,Nat.testBit_two_pow_mul,Nat.testBit_two_pow_sub_one]
  by_cases h:lo≤i
  · simp [h]; omega
  · simp [h]
theorem bit_ev (lo hi i:Nat)(h:lo≤hi+1):bitAt (evB lo hi) i=(decide (lo≤i) && decide (i≤hi)):=by
  unfold bitAt evB
  rw [Int.toNat_natCast]
  obtain ⟨d,hd⟩:∃ d,hi+1=lo+d:=⟨hi+1 - lo,by omega⟩
  rw [hd,sub_testBit]
  congr 1
  simp; omega
theorem ev_in (lo hi:Nat)(h:hi≤62):InU (evB lo hi):=by
  unfold evB InU
  have:2 ^ (hi+1)≤2 ^ 63:=Nat.pow_le_pow_right (by decide) (by omega)
  rw [show (2:Nat) ^ 63=9223372036854775808 by decide] at this
  generalize (2:Nat) ^ (hi+1)=q at this ⊢
  generalize (2:Nat) ^ lo=r
  omega
theorem andNot_zero (a b:Int)(ha:InU a)(hb:InU b):(Go.bits .andNot .u64 a b=0)↔∀ i,i < 64→bitAt a i=true→bitAt b i=true:=by
  obtain ⟨n,rfl,hn⟩ :=nat_of a ha
  obtain ⟨m,rfl,hm⟩ :=nat_of b hb
  have e:Go.bits .andNot .u64 (n:Int) (m:Int)=((BitVec.ofNat 64 n &&& ~~~ BitVec.ofNat 64 m).toNat:Int):=by
    have:=(BitVec.ofNat 64 n &&& ~~~ BitVec.ofNat 64 m).isLt
    show IntKind.u64.wrap ((BitVec.ofInt 64 (n:Int) &&& ~~~ BitVec.ofInt 64 (m:Int)).toNat:Int)=_
    rw [BitVec.ofInt_natCast,BitVec.ofInt_natCast,u64w]
    omega
  rw [e]
  have hz:((BitVec.ofNat 64 n &&& ~~~ BitVec.ofNat 64 m).toNat:Int)=0↔(BitVec.ofNat 64 n &&& ~~~ BitVec.ofNat 64 m)=0#64:=by
    constructor
    · intro h; apply BitVec.eq_of_toNat_eq; simpa using h
    · intro h; rw [h]; rfl
  rw [hz]
  constructor
  · intro h i hi hb
    have:=congrArg (fun v=>v.getLsbD i) h
    simp only [BitVec.getLsbD_and,BitVec.getLsbD_not,BitVec.getLsbD_ofNat,hi,decide_true,Bool.true_and,BitVec.getLsbD_zero] at this
    unfold bitAt at hb ⊢
    rw [Int.toNat_natCast] at hb ⊢
    rw [hb] at this
    simpa using this
  · intro h
    apply BitVec.eq_of_getLsbD_eq
    intro i hi
    simp only [BitVec.getLsbD_and,BitVec.getLsbD_not,BitVec.getLsbD_ofNat,hi,decide_true,Bool.true_and,BitVec.getLsbD_zero]
    have:=h i hi
    unfold bitAt at this
    rw [Int.toNat_natCast,Int.toNat_natCast] at this
    cases h1:n.testBit i
    · simp
    · rw [this h1]; simp
theorem size_list (s:ByteArray):s.data.toList.length=s.size:=by rw [Array.length_toList]; rfl
/-- The runs of what is there: each lies within, and together they are just it. -/
theorem Shw.runs_spec (p:Nat→Bool):∀ (f v:Nat),64≤v+f→∀ i,v≤i→i < 64→(p i=true↔∃ r ∈ Shw.runs p f v,r.1≤i∧i≤r.2):=by
  intro f
  induction f with
  | zero=>intro v h i h1 h2; omega
  | succ f ih=>
    intro v h i h1 h2
    unfold Shw.runs
    cases hf:Shw.fst p (64 - v) v with
    | none=>
      have:=Shw.fst_none hf i h1 (by omega)
      simp [this]
    | some a=>
      obtain ⟨q1,q2,q3,q4⟩ :=Shw.fst_some hf
      obtain ⟨s1,s2,s3,s4⟩ :=Shw.stop_spec p (64 - a) a
      have sa:a < Shw.stop p (64 - a) a:=by
        rcases Nat.lt_or_ge a (Shw.stop p (64 - a) a) with h' | h'
        · exact h'
        · have e:Shw.stop p (64 - a) a=a:=by omega
          have:=s4 (by omega)
          rw [e,q3] at this
          cases this
      dsimp only
      generalize Shw.stop p (64 - a) a=e at s1 s2 s3 s4 sa ⊢
      have hi:=ih e (by omega) i
      constructor
      · intro hp
        by_cases c:i < e
        · refine ⟨(a,e - 1),List.mem_cons_self ..,?_,by dsimp only; omega⟩
          dsimp only
          rcases Nat.lt_or_ge i a with h' | h'
          · rw [q4 i h1 h'] at hp; cases hp
          · exact h'
        · obtain ⟨r,hr,hr2⟩ :=(hi (by omega) h2).1 hp
          exact ⟨r,List.mem_cons_of_mem _ hr,hr2⟩
      · rintro ⟨r,hr,hr2⟩
        rcases List.mem_cons.1 hr with rfl | hr
        · exact s3 i hr2.1 (by have:=hr2.2; dsimp only at this; omega)
        · by_cases c:e≤i
          · exact (hi c h2).2 ⟨r,hr,hr2⟩
          · by_cases c2:a≤i
            · exact s3 i c2 (by omega)
            · exfalso
              have:∀ (f w:Nat) (r:Nat × Nat),r ∈ Shw.runs p f w→w≤r.1:=by
                intro f
                induction f with
                | zero=>intro w r h; cases h
                | succ f ih2=>
                  intro w r h
                  unfold Shw.runs at h
                  cases hf2:Shw.fst p (64 - w) w with
                  | none=>rw [hf2] at h; cases h
                  | some a2=>
                    rw [hf2] at h
                    have t1:=(Shw.fst_some hf2).1
                    have t2:=(Shw.stop_spec p (64 - a2) a2).1
                    rcases List.mem_cons.1 h with rfl | h
                    · exact t1
                    · have:=ih2 _ _ h; omega
              have:=this f e r hr
              omega
theorem Shw.runs_in (p:Nat→Bool):∀ (f v:Nat) (r:Nat × Nat),r ∈ Shw.runs p f v→r.1≤r.2∧p r.1=true∧p r.2=true∧r.2 < 64:=by
  intro f
  induction f with
  | zero=>intro v r h; cases h
  | succ f ih=>
    intro v r h
    unfold Shw.runs at h
    cases hf:Shw.fst p (64 - v) v with
    | none=>rw [hf] at h; cases h
    | some a=>
      rw [hf] at h
      obtain ⟨q1,q2,q3,q4⟩ :=Shw.fst_some hf
      obtain ⟨s1,s2,s3,s4⟩ :=Shw.stop_spec p (64 - a) a
      have sa:a < Shw.stop p (64 - a) a:=by
        rcases Nat.lt_or_ge a (Shw.stop p (64 - a) a) with h' | h'
        · exact h'
        · have e:Shw.stop p (64 - a) a=a:=by omega
          have:=s4 (by omega)
          rw [e,q3] at this
          cases this
      rcases List.mem_cons.1 h with rfl | h
      · exact ⟨by dsimp only; omega,q3,s3 _ (by dsimp only; omega) (by dsimp only; omega),by dsimp only; omega⟩
      · exact ih _ _ h
theorem Shw.dg_size (n:Nat):(Shw.dg n).size≠0:=by unfold Shw.dg; split <;> simp [ByteArray.size]
theorem Shw.dg_number:∀ n:Fin 64,Lex.number (Shw.dg n.val)=((n.val:Int),0)∧(48≤bt (Shw.dg n.val) 0∧bt (Shw.dg n.val) 0≤57):=by decide +kernel
theorem Shw.dg_value (n:Nat)(kind:Int)(hk:(Lex.limits kind).2.2=0)(h0:(Lex.limits kind).1≤n)(h1:(n:Int)≤(Lex.limits kind).2.1)(hn:n < 64):Lex.value (Shw.dg n) kind=((n:Int),0):=by
  obtain ⟨q1,q2⟩ :=Shw.dg_number ⟨n,hn⟩
  dsimp only at q1 q2
  unfold Lex.value
  rw [if_neg (by simp [hk])]
  unfold Lex.fin Lex.read
  rw [if_pos q2,q1,if_neg (by rintro ⟨-,h | h⟩ <;> dsimp only at h <;> omega)]
/-- An item 'a-b' without a step. -/
theorem Shw.span_item (a b : ByteArray) (kind : Int) (ha : (Lex.value a kind).2 = 0) (hb : (Lex.value b kind).2 = 0) (hab : ¬ (Lex.value b kind).1 < (Lex.value a kind).1) :
    Fld.itemP (a ++ (⟨#[45]⟩:ByteArray) ++ b) kind=((Lex.value a kind).1,(Lex.value b kind).1,1,0):=by
  have pa:=value_plain a kind ha
  have pb:=value_plain b kind hb
  have hl:(a ++ (⟨#[45]⟩:ByteArray) ++ b).data.toList=a.data.toList ++ 45 :: b.data.toList:=by simp [ByteArray.data_append]
  have h47:(47:UInt8) ∉ a.data.toList ++ 45 :: b.data.toList:=fun hm=>(plain_app pa pb 47 (by decide) hm).2.1 rfl
  have hc:Fld.cutL (a ++ (⟨#[45]⟩:ByteArray) ++ b)=(L2B (a.data.toList ++ 45 :: b.data.toList),⟨#[]⟩,false):=by
    unfold Fld.cutL
    rw [hl,cut_none _ h47]
    rfl
  have ha45:(45:UInt8) ∉ a.data.toList:=fun hm=>(pa _ hm).2.1 rfl
  have hb45:(45:UInt8) ∉ b.data.toList:=fun hm=>(pb _ hm).2.1 rfl
  have hpt:Fld.parts 45 (L2B (a.data.toList ++ 45 :: b.data.toList))=[a,b]:=by
    rw [parts_sp,L2B_list,sp_append,sp_none 45 _ ha45,sp_none 45 _ hb45]
    show [L2B a.data.toList,L2B b.data.toList]=_
    rw [L2B_of,L2B_of]
  have hst:¬ (L2B (a.data.toList ++ 45 :: b.data.toList)).toList=[42]:=by
    rw [toList_of,L2B_list]
    intro e
    have:(45:UInt8) ∈ a.data.toList ++ 45 :: b.data.toList:=List.mem_append_right _ (List.mem_cons_self ..)
    rw [e] at this
    simp at this
  have hs:Fld.splitE (a ++ (⟨#[45]⟩:ByteArray) ++ b)=0:=by
    unfold Fld.splitE
    rw [hc,hpt]
    rw [if_neg (by rintro (h | h); exact (show ¬ Lib.contains ([]:List UInt8) [47]=true by decide) h; exact absurd h (by simp)),if_neg (by simp)]
  unfold Fld.itemP
  rw [if_neg (by simp [hs]),hc,hpt]
  have hv:Fld.valuesP (L2B (a.data.toList ++ 45 :: b.data.toList)) [a,b] kind=((Lex.value a kind).1,(Lex.value b kind).1,0):=by
    unfold Fld.valuesP
    rw [if_neg hst]
    dsimp only
    rw [if_neg (by simp [ha]),if_neg (by simp [hb]),if_neg hab]
  rw [hv]
  unfold Fld.stepP
  simp
theorem Shw.span_parse (a b : ByteArray) (kind : Int) (ha : (Lex.value a kind).2 = 0) (hb : (Lex.value b kind).2 = 0) (hab : ¬ (Lex.value b kind).1 < (Lex.value a kind).1) :
    ∃ B,Fld.parse (a ++ (⟨#[45]⟩:ByteArray) ++ b) kind=(B,false,0)∧InU B∧∀ i:Nat,bitAt B i=true↔∃ u,(Lex.value a kind).1≤u∧u≤(Lex.value b kind).1∧(Fld.day kind u).val=i:=by
  have pa:=value_plain a kind ha
  have pb:=value_plain b kind hb
  have hit:=Shw.span_item a b kind ha hb hab
  have hl:(a ++ (⟨#[45]⟩:ByteArray) ++ b).data.toList=a.data.toList ++ 45 :: b.data.toList:=by simp [ByteArray.data_append]
  generalize hT:a ++ (⟨#[45]⟩:ByteArray) ++ b=T at hit hl ⊢
  have h44:(44:UInt8) ∉ T.data.toList:=by rw [hl]; intro hm; exact (plain_app pa pb 44 (by decide) hm).1 rfl
  have hpt:Fld.parts 44 T=[T]:=by rw [parts_sp,sp_none 44 _ h44]; exact congrArg (fun z=>[z]) (L2B_of T)
  have hst:(T.toList == [42])=false:=by
    rw [toList_of,beq_eq_false_iff_ne,hl]; intro e
    have:(45:UInt8) ∈ a.data.toList ++ 45 :: b.data.toList:=List.mem_append_right _ (List.mem_cons_self ..)
    rw [e] at this
    simp at this
  have hk:=(Fld.value_bd a kind ha).1
  have z:InU 0:=by unfold InU; omega
  have hpl:Fld.parseL kind [T] 0=((Fld.itemL T kind).foldl Fld.put 0,0):=by
    show (if (Fld.itemP T kind).2.2.2≠0 then _ else _)=_
    rw [if_neg (by rw [hit]; simp)]; rfl
  refine ⟨(Fld.itemL T kind).foldl Fld.put 0,?_,fold_in _ z,fun i=>?_⟩
  · unfold Fld.parse
    rw [if_neg (by simp [hk]),hpt,hst,hpl]
    rfl
  · have hm:∀ y,y ∈ Fld.itemL T kind↔_:=fun y=>item_L T kind y hk (by rw [hit])
    rw [hit] at hm
    rw [fold_mem _ z i,bit_zero]
    simp only [Bool.false_eq_true,false_or]
    constructor
    · rintro ⟨y,hy,rfl⟩
      obtain ⟨u,u1,u2,-,rfl⟩ :=(hm y).1 hy
      exact ⟨u,u1,u2,rfl⟩
    · rintro ⟨u,u1,u2,rfl⟩
      exact ⟨_,(hm _).2 ⟨u,u1,u2,Int.emod_one _,rfl⟩,rfl⟩
/-- What is told so far, and its bits: nothing at all, or a text that is parsed to them. -/
def Shw.Good (kind:Int)(acc:ByteArray)(B:Int):Prop:=InU B∧(acc.size=0∧B=0∨acc.size≠0∧Fld.parse acc kind=(B,false,0))
theorem Shw.add_size (acc s:ByteArray)(h:s.size≠0):(Shw.add acc s).size≠0:=by
  unfold Shw.add
  split
  · exact h
  · simp only [ByteArray.size_append]; omega
theorem Shw.add_good {kind : Int} {acc s : ByteArray} {B C : Int} (h : Shw.Good kind acc B) (hs : s.size ≠ 0) (hp : Fld.parse s kind = (C, false, 0)) (hC : InU C) :
    ∃ D,Shw.Good kind (Shw.add acc s) D∧∀ i,bitAt D i=(bitAt B i || bitAt C i):=by
  obtain ⟨hB,⟨h0,rfl⟩ | ⟨h0,h1⟩⟩ :=h
  · refine ⟨C,⟨hC,.inr ⟨Shw.add_size _ _ hs,?_⟩⟩,fun i=>by rw [bit_zero,Bool.false_or]⟩
    unfold Shw.add
    rw [if_pos h0,hp]
  · obtain ⟨q1,q2⟩ :=bits_or hB hC
    refine ⟨Go.bits .or .u64 B C,⟨q1,.inr ⟨Shw.add_size _ _ hs,?_⟩⟩,q2⟩
    unfold Shw.add
    rw [if_neg h0,both_ok acc s kind (by rw [h1]) (by rw [hp]),h1,hp]
theorem Shw.day_same (kind:Int)(u:Nat)(hk:(Lex.limits kind).2.2=0)(h0:(Lex.limits kind).1≤u)(h1:(u:Int)≤top kind)(h64:u < 64):(Fld.day kind u).val=u:=by
  have h:=day_val kind u (by omega) (by omega)
  have:((Fld.day kind (u:Int)).val:Int)=u:=by
    rw [h]
    split
    · rename_i hk4
      have:top kind=6:=by unfold top; rw [if_pos hk4]
      omega
    · rfl
  exact_mod_cast this
theorem Shw.top_le (kind:Int)(hk:(Lex.limits kind).2.2=0):top kind≤(Lex.limits kind).2.1:=by
  rcases kinds kind hk with rfl | rfl | rfl | rfl | rfl <;> decide
theorem Shw.dg_parse (kind : Int) (a : Nat) (hk : (Lex.limits kind).2.2 = 0) (h0 : (Lex.limits kind).1 ≤ a) (h1 : (a : Int) ≤ top kind) (h64 : a < 64) :
    ∃ C,Fld.parse (Shw.dg a) kind=(C,false,0)∧InU C∧∀ i:Nat,bitAt C i=decide (i=a):=by
  have hv:=Shw.dg_value a kind hk h0 (Int.le_trans h1 (Shw.top_le kind hk)) h64
  have z:InU 0:=by unfold InU; omega
  refine ⟨_,parse_value _ kind (by rw [hv]),put_in _ z,fun i=>?_⟩
  rw [bit_put _ z,bit_zero,Bool.false_or,hv]
  dsimp only
  rw [Shw.day_same kind a hk h0 h1 h64]
  exact decide_eq_decide.2 eq_comm
theorem Shw.item_good {kind : Int} {acc : ByteArray} {B : Int} (hk : (Lex.limits kind).2.2 = 0) (h : Shw.Good kind acc B) (a b : Nat) (hab : a ≤ b) (h0 : (Lex.limits kind).1 ≤ a) (h1 : (b : Int) ≤ top kind) (h64 : b < 64) :
    ∃ D,Shw.Good kind (Shw.item acc a b) D∧(Shw.item acc a b).size≠0∧∀ i,bitAt D i=(bitAt B i || (decide (a≤i) && decide (i≤b))):=by
  obtain ⟨C,c1,c2,c3⟩ :=Shw.dg_parse kind a hk h0 (by omega) (by omega)
  obtain ⟨E,e1,e2,e3⟩ :=Shw.dg_parse kind b hk (by omega) h1 h64
  unfold Shw.item
  by_cases q:b=a
  · rw [if_pos q]
    obtain ⟨D,d1,d2⟩ :=Shw.add_good h (Shw.dg_size a) c1 c2
    refine ⟨D,d1,Shw.add_size _ _ (Shw.dg_size a),fun i=>?_⟩
    rw [d2,c3]
    congr 1
    subst q
    apply Bool.eq_iff_iff.2
    simp only [decide_eq_true_eq,Bool.and_eq_true]
    omega
  rw [if_neg q]
  by_cases q2:b=a+1
  · rw [if_pos q2]
    obtain ⟨D,d1,d2⟩ :=Shw.add_good h (Shw.dg_size a) c1 c2
    obtain ⟨D',d3,d4⟩ :=Shw.add_good d1 (Shw.dg_size b) e1 e2
    refine ⟨D',d3,Shw.add_size _ _ (Shw.dg_size b),fun i=>?_⟩
    rw [d4,d2,c3,e3,Bool.or_assoc]
    congr 1
    apply Bool.eq_iff_iff.2
    simp only [decide_eq_true_eq,Bool.and_eq_true,Bool.or_eq_true]
    omega
  · rw [if_neg q2]
    have va:=Shw.dg_value a kind hk h0 (Int.le_trans (show (a:Int)≤top kind by omega) (Shw.top_le kind hk)) (by omega)
    have vb:=Shw.dg_value b kind hk (by omega) (Int.le_trans h1 (Shw.top_le kind hk)) h64
    obtain ⟨F,f1,f2,f3⟩ :=Shw.span_parse (Shw.dg a) (Shw.dg b) kind (by rw [va]) (by rw [vb]) (by rw [va,vb]; dsimp only; omega)
    have hsz:(Shw.dg a ++ (⟨#[45]⟩:ByteArray) ++ Shw.dg b).size≠0:=by
      have:=Shw.dg_size a
      simp only [ByteArray.size_append]
      omega
    obtain ⟨D,d1,d2⟩ :=Shw.add_good h hsz f1 f2
    refine ⟨D,d1,Shw.add_size _ _ hsz,fun i=>?_⟩
    rw [d2]
    congr 1
    apply Bool.eq_iff_iff.2
    rw [f3,va,vb]
    simp only [decide_eq_true_eq,Bool.and_eq_true]
    constructor
    · rintro ⟨u,u1,u2,rfl⟩
      obtain ⟨n,rfl⟩:∃ n:Nat,u=n:=⟨u.toNat,by omega⟩
      rw [Shw.day_same kind n hk (by omega) (by omega) (by omega)]
      omega
    · rintro ⟨u1,u2⟩
      exact ⟨i,by omega,by omega,Shw.day_same kind i hk (by omega) (by omega) (by omega)⟩
theorem Shw.fold_good {kind : Int} (hk : (Lex.limits kind).2.2 = 0) : ∀ (l : List (Nat × Nat)) (acc : ByteArray) (B : Int), Shw.Good kind acc B → (∀ r ∈ l, r.1 ≤ r.2 ∧ (Lex.limits kind).1 ≤ r.1 ∧ (r.2 : Int) ≤ top kind ∧ r.2 < 64) →
    ∃ D,Shw.Good kind (Shw.fold l acc) D∧(l≠[]→(Shw.fold l acc).size≠0)∧∀ i,bitAt D i=true↔bitAt B i=true∨∃ r ∈ l,r.1≤i∧i≤r.2:=by
  intro l
  induction l with
  | nil=>intro acc B h _; exact ⟨B,h,fun h=>absurd rfl h,fun i=>by simp⟩
  | cons r l ih=>
    intro acc B h hl
    obtain ⟨r1,r2,r3,r4⟩ :=hl r (List.mem_cons_self ..)
    obtain ⟨D,d1,d2,d3⟩ :=Shw.item_good hk h r.1 r.2 r1 r2 r3 r4
    obtain ⟨D',e1,e2,e3⟩ :=ih (Shw.item acc r.1 r.2) D d1 (fun x hx=>hl x (List.mem_cons_of_mem _ hx))
    refine ⟨D',e1,fun _=>?_,fun i=>?_⟩
    · by_cases c:l=[]
      · subst c; exact d2
      · exact e2 c
    · rw [e3,d3]
      simp only [Bool.or_eq_true,Bool.and_eq_true,decide_eq_true_eq,List.mem_cons,exists_eq_or_imp]
      rw [or_assoc]
/-- WHAT IS SHOWN OF BITS IS PARSED BACK. -/
theorem Shw.text_parse {kind : Int} (hk : (Lex.limits kind).2.2 = 0) (b : Int) (hb : InU b) (h0 : b ≠ 0) (hin : ∀ i : Nat, bitAt b i = true → (Lex.limits kind).1 ≤ i ∧ (i : Int) ≤ top kind) :
    Fld.parse (Shw.text (bitAt b)) kind=(b,false,0)∧(Shw.text (bitAt b)).size≠0:=by
  have z:InU 0:=by unfold InU; omega
  obtain ⟨D,⟨d0,d1⟩,d2,d3⟩ :=Shw.fold_good hk (Shw.runs (bitAt b) 64 0) ⟨#[]⟩ 0 ⟨z,.inl ⟨rfl,rfl⟩⟩ (fun r hr=>by
    obtain ⟨q1,q2,q3,q4⟩ :=Shw.runs_in (bitAt b) 64 0 r hr
    exact ⟨q1,(hin _ q2).1,(hin _ q3).2,q4⟩)
  have hD:D=b:=eq_of_bits d0 hb (fun i hi=>by
    apply Bool.eq_iff_iff.2
    rw [d3,bit_zero,Shw.runs_spec (bitAt b) 64 0 (by omega) i (by omega) hi]
    simp)
  subst hD
  have hne:Shw.runs (bitAt D) 64 0≠[]:=by
    intro e
    apply h0
    refine eq_of_bits d0 z (fun i hi=>?_)
    have:=(Shw.runs_spec (bitAt D) 64 0 (by omega) i (by omega) hi)
    rw [e] at this
    rw [bit_zero]
    by_cases c:bitAt D i=true
    · obtain ⟨r,hr,-⟩ :=this.1 c; cases hr
    · simpa using c
  have hs:=d2 hne
  rcases d1 with ⟨q,-⟩ | ⟨-,q⟩
  · exact absurd q hs
  · exact ⟨q,hs⟩
/-! How long such a text may be. -/
def Shw.W (v:Nat):Nat:=if v < 10 then 4*v else 40+6*(v - 10)
def Shw.d (v:Nat):Nat:=if v < 10 then 1 else 2
def Shw.cst (a b:Nat):Nat:=if b=a then Shw.d a+1 else Shw.d a+Shw.d b+2
def Shw.S (acc:ByteArray):Nat:=if acc.size=0 then 0 else acc.size+1
theorem Shw.dg_len (n:Nat):(Shw.dg n).size=Shw.d n:=by unfold Shw.dg Shw.d; split <;> rfl
theorem Shw.S_add (acc s:ByteArray)(h:s.size≠0):Shw.S (Shw.add acc s)=Shw.S acc+s.size+1:=by
  have h2:=Shw.add_size acc s h
  unfold Shw.S
  rw [if_neg h2]
  unfold Shw.add
  split
  · omega
  · have:(⟨#[44]⟩:ByteArray).size=1:=rfl
    simp only [ByteArray.size_append]
    omega
theorem Shw.S_item (acc:ByteArray)(a b:Nat):Shw.S (Shw.item acc a b)=Shw.S acc+Shw.cst a b:=by
  have h1:(⟨#[45]⟩:ByteArray).size=1:=rfl
  have ha:=Shw.dg_size a
  have hb:=Shw.dg_size b
  have la:=Shw.dg_len a
  have lb:=Shw.dg_len b
  unfold Shw.item Shw.cst
  by_cases c:b=a
  · rw [if_pos c,if_pos c,Shw.S_add _ _ ha,la]; omega
  rw [if_neg c,if_neg c]
  by_cases c2:b=a+1
  · rw [if_pos c2,Shw.S_add _ _ hb,Shw.S_add _ _ ha,la,lb]; omega
  · have hs : (Shw.dg a ++ (⟨#[45]⟩ : ByteArray) ++ Shw.dg b).size = Shw.d a + 1 + Shw.d b := by
      simp only [ByteArray.size_append]
      rw [la,lb,h1]
    rw [if_neg c2,Shw.S_add _ _ (by rw [hs]; omega),hs]; omega
theorem Shw.S_fold:∀ (l:List (Nat × Nat))(acc:ByteArray),Shw.S (Shw.fold l acc)=Shw.S acc+(l.map fun r=>Shw.cst r.1 r.2).sum:=by
  intro l
  induction l with
  | nil=>intro acc; show Shw.S acc=_; simp
  | cons r l ih=>
    intro acc
    show Shw.S (Shw.fold l (Shw.item acc r.1 r.2))=_
    rw [ih,Shw.S_item,List.map_cons,List.sum_cons]
    omega
theorem Shw.cst_W (a e:Nat)(h:a < e):3*Shw.cst a (e - 1)+Shw.W a≤Shw.W (e+1):=by
  unfold Shw.cst Shw.W Shw.d
  repeat' split
  all_goals omega
theorem Shw.W_mono {a b:Nat}(h:a≤b):Shw.W a≤Shw.W b:=by
  unfold Shw.W
  repeat' split
  all_goals omega
theorem Shw.runs_len (p : Nat → Bool) (T : Nat) (hT : T < 64) (hp : ∀ i, p i = true → i < T) : ∀ (f v v' : Nat), v ≤ v' → (∀ i, v ≤ i → i < v' → p i = false) → v' ≤ T + 1 →
    3*((Shw.runs p f v).map fun r=>Shw.cst r.1 r.2).sum+Shw.W v'≤Shw.W (T+1):=by
  intro f
  induction f with
  | zero=>intro v v' h1 h2 h3; have:=Shw.W_mono h3; simpa [Shw.runs] using this
  | succ f ih=>
    intro v v' h1 h2 h3
    unfold Shw.runs
    cases hf:Shw.fst p (64 - v) v with
    | none=>have:=Shw.W_mono h3; simpa using this
    | some a=>
      obtain ⟨q1,q2,q3,q4⟩ :=Shw.fst_some hf
      obtain ⟨s1,s2,s3,s4⟩ :=Shw.stop_spec p (64 - a) a
      have ha:=hp a q3
      have sa:a < Shw.stop p (64 - a) a:=by
        rcases Nat.lt_or_ge a (Shw.stop p (64 - a) a) with h' | h'
        · exact h'
        · have e:Shw.stop p (64 - a) a=a:=by omega
          have:=s4 (by omega)
          rw [e,q3] at this
          cases this
      dsimp only
      generalize Shw.stop p (64 - a) a=e at s1 s2 s3 s4 sa ⊢
      have he:e≤T:=by have:=hp (e - 1) (s3 (e - 1) (by omega) (by omega)); omega
      have hpe:p e=false:=s4 (by omega)
      have hav:v'≤a:=by
        rcases Nat.lt_or_ge a v' with h' | h'
        · rw [h2 a q1 h'] at q3; cases q3
        · exact h'
      have hi:=ih e (e+1) (by omega) (fun i i1 i2=>(show i=e by omega) ▸ hpe) (by omega)
      have hc:=Shw.cst_W a e sa
      have hm:=Shw.W_mono hav
      rw [List.map_cons,List.sum_cons]
      dsimp only
      omega
theorem Shw.text_len (p:Nat→Bool)(lo T:Nat)(hT:T < 64)(h1:lo≤T+1)(hp:∀ i,p i=true→lo≤i∧i < T):3*Shw.S (Shw.text p)+Shw.W lo≤Shw.W (T+1):=by
  have h:=Shw.runs_len p T hT (fun i hi=>(hp i hi).2) 64 0 lo (by omega) (fun i _ h2=>by
    by_cases c:p i=true
    · have:=(hp i c).1; omega
    · simpa using c) h1
  unfold Shw.text
  rw [Shw.S_fold]
  have:Shw.S (⟨#[]⟩:ByteArray)=0:=rfl
  omega
/-! The letters of a text, and a spec's text. -/
def Shw.okc (c:UInt8):Bool:=(decide (48≤c.toNat) && decide (c.toNat≤57)) || c == 44 || c == 45 || c == 42
theorem Shw.okc_known (c:UInt8)(h:Shw.okc c=true):Lex.blankB c=false∧Lex.knownI (c.toNat:Int)=true:=by
  unfold Shw.okc at h
  have hk:(48≤c.toNat∧c.toNat≤57)∨c.toNat=44∨c.toNat=45∨c.toNat=42:=by
    simp only [Bool.or_eq_true,Bool.and_eq_true,decide_eq_true_eq,beq_iff_eq] at h
    rcases h with ((h | h) | h) | h
    · exact .inl h
    · exact .inr (.inl (by rw [h]; rfl))
    · exact .inr (.inr (.inl (by rw [h]; rfl)))
    · exact .inr (.inr (.inr (by rw [h]; rfl)))
  constructor
  · unfold Lex.blankB Lex.blankN
    simp only [Bool.or_eq_false_iff,beq_eq_false_iff_ne]
    omega
  · unfold Lex.knownI
    simp only [Bool.or_eq_true,Bool.and_eq_true,decide_eq_true_eq]
    omega
def Shw.Oks (s:ByteArray):Prop:=∀ c ∈ s.data.toList,Shw.okc c=true
theorem Shw.oks_app {a b:ByteArray}(ha:Shw.Oks a)(hb:Shw.Oks b):Shw.Oks (a ++ b):=by
  intro c hc
  rw [ByteArray.data_append,Array.toList_append] at hc
  rcases List.mem_append.1 hc with h | h
  · exact ha c h
  · exact hb c h
theorem Shw.oks_dg:∀ n:Fin 64,∀ c ∈ (Shw.dg n.val).data.toList,Shw.okc c=true:=by decide +kernel
theorem Shw.oks_add {acc s:ByteArray}(ha:Shw.Oks acc)(hs:Shw.Oks s):Shw.Oks (Shw.add acc s):=by
  unfold Shw.add
  split
  · exact hs
  · exact Shw.oks_app (Shw.oks_app ha (fun c hc => by
      have q:c=44:=by simpa using hc
      rw [q]; decide)) hs
theorem Shw.oks_item {acc:ByteArray}(ha:Shw.Oks acc)(a b:Nat)(h1:a < 64)(h2:b < 64):Shw.Oks (Shw.item acc a b):=by
  have da:=Shw.oks_dg ⟨a,h1⟩
  have db:=Shw.oks_dg ⟨b,h2⟩
  unfold Shw.item
  split
  · exact Shw.oks_add ha da
  · split
    · exact Shw.oks_add (Shw.oks_add ha da) db
    · exact Shw.oks_add ha (Shw.oks_app (Shw.oks_app da (fun c hc => by
        have q:c=45:=by simpa using hc
        rw [q]; decide)) db)
theorem Shw.oks_fold:∀ (l:List (Nat × Nat))(acc:ByteArray),Shw.Oks acc→(∀ r ∈ l,r.1 < 64∧r.2 < 64)→Shw.Oks (Shw.fold l acc):=by
  intro l
  induction l with
  | nil=>intro acc h _; exact h
  | cons r l ih=>
    intro acc h hl
    have:=hl r (List.mem_cons_self ..)
    exact ih _ (Shw.oks_item h r.1 r.2 this.1 this.2) (fun x hx=>hl x (List.mem_cons_of_mem _ hx))
theorem Shw.oks_text (p:Nat→Bool):Shw.Oks (Shw.text p):=
  Shw.oks_fold _ _ (by intro c hc; cases hc) (fun r hr=>by obtain ⟨q1,q2,q3,q4⟩ :=Shw.runs_in p 64 0 r hr; omega)
theorem Shw.oks_ftext (b:Int)(s:Bool):Shw.Oks (Shw.ftext b s):=by
  unfold Shw.ftext
  split
  · intro c hc; have:c=42:=by simpa using hc
    rw [this]; decide
  · exact Shw.oks_text _
/-- WHAT IS SHOWN OF A FIELD IS PARSED BACK; it is no longer than that. -/
theorem Shw.back (b : Int) (s : Bool) (kind : Int) (hk : (Lex.limits kind).2.2 = 0) (hb : InU b) (h : field_Check.f b s kind = some 0) :
    Fld.parse (Shw.ftext b s) kind=(b,s,0)∧(Shw.ftext b s).size≠0∧∀ lo T:Nat,(Lex.limits kind).1=lo→top kind+1=T→3*((Shw.ftext b s).size+1)+Shw.W lo≤Shw.W (T+1):=by
  obtain ⟨lo,hi,e1,e2,e3,e4⟩:∃ lo hi:Nat,(Lex.limits kind).1=lo∧top kind=hi∧lo≤hi∧hi≤59:=by
    rcases kinds kind hk with rfl | rfl | rfl | rfl | rfl
    · exact ⟨0,59,rfl,rfl,by decide,by decide⟩
    · exact ⟨0,23,rfl,rfl,by decide,by decide⟩
    · exact ⟨1,31,rfl,rfl,by decide,by decide⟩
    · exact ⟨1,12,rfl,rfl,by decide,by decide⟩
    · exact ⟨0,6,rfl,rfl,by decide,by decide⟩
  rw [check_f b s kind lo hi hk e1 e2 e3 e4] at h
  have two:¬ (some 2:Option Int)=some 0:=by decide
  by_cases c0:b=0
  · rw [if_pos c0] at h; exact absurd h two
  rw [if_neg c0] at h
  by_cases c1:Go.bits .andNot .u64 b (evB lo hi)=0
  case neg=>rw [if_neg c1] at h; exact absurd h two
  rw [if_pos c1] at h
  have hin:∀ i:Nat,bitAt b i=true→lo≤i∧i≤hi:=by
    intro i hi2
    have h64:i < 64:=by
      rcases Nat.lt_or_ge i 64 with q | q
      · exact q
      · rw [bit_big hb q] at hi2; cases hi2
    have:=(andNot_zero b (evB lo hi) hb (ev_in lo hi (by omega))).1 c1 i h64 hi2
    rw [bit_ev lo hi i (by omega)] at this
    simpa using this
  cases s with
  | true=>
    rw [if_pos rfl] at h
    by_cases c2:b=evB lo hi
    case neg=>rw [if_neg c2] at h; exact absurd h two
    refine ⟨?_,(show (⟨#[42]⟩:ByteArray).size≠0 by decide),fun l T q1 q2=>?_⟩
    · show Fld.parse ⟨#[42]⟩ kind=_
      rw [parse_star kind lo hi hk e1 e2,c2]
    · show 3*(1+1)+_≤_
      obtain rfl:l=lo:=by omega
      obtain rfl:T=hi+1:=by omega
      rcases kinds kind hk with rfl | rfl | rfl | rfl | rfl
      · obtain rfl : (0 : Nat) = l := by have : (Lex.limits 0).1 = 0 := rfl
                                         omega
        obtain rfl : (59 : Nat) = hi := by have : top 0 = 59 := rfl
                                           omega
        decide
      · obtain rfl : (0 : Nat) = l := by have : (Lex.limits 1).1 = 0 := rfl
                                         omega
        obtain rfl : (23 : Nat) = hi := by have : top 1 = 23 := rfl
                                           omega
        decide
      · obtain rfl : (1 : Nat) = l := by have : (Lex.limits 2).1 = 1 := rfl
                                         omega
        obtain rfl : (31 : Nat) = hi := by have : top 2 = 31 := rfl
                                           omega
        decide
      · obtain rfl : (1 : Nat) = l := by have : (Lex.limits 3).1 = 1 := rfl
                                         omega
        obtain rfl : (12 : Nat) = hi := by have : top 3 = 12 := rfl
                                           omega
        decide
      · obtain rfl : (0 : Nat) = l := by have : (Lex.limits 4).1 = 0 := rfl
                                         omega
        obtain rfl : (6 : Nat) = hi := by have : top 4 = 6 := rfl
                                          omega
        decide
  | false=>
    obtain ⟨q1,q2⟩ :=Shw.text_parse hk b hb c0 (fun i hi2=>by have:=hin i hi2; omega)
    refine ⟨q1,q2,fun l T e5 e6=>?_⟩
    have hl:=Shw.text_len (bitAt b) l T (by omega) (by omega) (fun i hi2=>by have:=hin i hi2; omega)
    unfold Shw.S at hl
    rw [if_neg q2] at hl
    exact hl
/-- FIVE SUCH WORDS WITH BLANKS BETWEEN ARE THE FIELDS. -/
theorem Shw.join_fields (w0 w1 w2 w3 w4 : ByteArray) (n0 : w0.size ≠ 0) (n1 : w1.size ≠ 0) (n2 : w2.size ≠ 0) (n3 : w3.size ≠ 0) (n4 : w4.size ≠ 0) (k0 : Shw.Oks w0) (k1 : Shw.Oks w1) (k2 : Shw.Oks w2) (k3 : Shw.Oks w3) (k4 : Shw.Oks w4)
    (hs:w0.size+w1.size+w2.size+w3.size+w4.size+4≤256) :
    Lex.fields (w0 ++ (⟨#[32]⟩:ByteArray) ++ w1 ++ (⟨#[32]⟩:ByteArray) ++ w2 ++ (⟨#[32]⟩:ByteArray) ++ w3 ++ (⟨#[32]⟩:ByteArray) ++ w4)=([w0,w1,w2,w3,w4],0):=by
  have ne:∀ w:ByteArray,w.size≠0→w.data.toList≠[]:=by
    intro w h e
    apply h
    rw [← size_list,e]; rfl
  have nb:∀ w:ByteArray,Shw.Oks w→∀ c ∈ w.data.toList,Lex.blankB c=false:=fun w h c hc=>(Shw.okc_known c (h c hc)).1
  have kn:∀ w:ByteArray,Shw.Oks w→Lex.knownAll w.data.toList=true:=fun w h=>List.all_eq_true.2 (fun c hc=>(Shw.okc_known c (h c hc)).2)
  have hl : (w0 ++ (⟨#[32]⟩ : ByteArray) ++ w1 ++ (⟨#[32]⟩ : ByteArray) ++ w2 ++ (⟨#[32]⟩ : ByteArray) ++ w3 ++ (⟨#[32]⟩ : ByteArray) ++ w4).data.toList =
      w0.data.toList ++ 32 :: (w1.data.toList ++ 32 :: (w2.data.toList ++ 32 :: (w3.data.toList ++ 32 :: w4.data.toList))):=by
    simp [ByteArray.data_append]
  have hb:Lex.blankB 32=true:=by decide
  have hw:Lex.words (w0.data.toList ++ 32 :: (w1.data.toList ++ 32 :: (w2.data.toList ++ 32 :: (w3.data.toList ++ 32 :: w4.data.toList)))) []=[w0.data.toList,w1.data.toList,w2.data.toList,w3.data.toList,w4.data.toList]:=by
    rw [Lex.words_run 32 hb _ _ [] (nb w0 k0) (by simpa using ne w0 n0),Lex.words_run 32 hb _ _ [] (nb w1 k1) (by simpa using ne w1 n1),Lex.words_run 32 hb _ _ [] (nb w2 k2) (by simpa using ne w2 n2),Lex.words_run 32 hb _ _ [] (nb w3 k3) (by simpa using ne w3 n3),Lex.words_last _ [] (nb w4 k4) (by simpa using ne w4 n4)]
    simp
  have h32:(⟨#[32]⟩:ByteArray).size=1:=rfl
  rw [Lex.fields_eq _ (by simp only [ByteArray.size_append]; omega),hl]
  unfold Lex.fieldsL
  have hk:Lex.knownAll (w0.data.toList ++ 32 :: (w1.data.toList ++ 32 :: (w2.data.toList ++ 32 :: (w3.data.toList ++ 32 :: w4.data.toList))))=true:=by
    have k32:Lex.knownI ((32:UInt8).toNat:Int)=true:=by decide
    have q0:=kn w0 k0
    have q1:=kn w1 k1
    have q2:=kn w2 k2
    have q3:=kn w3 k3
    have q4:=kn w4 k4
    unfold Lex.knownAll at q0 q1 q2 q3 q4 ⊢
    simp only [List.all_append,List.all_cons,q0,q1,q2,q3,q4,k32,Bool.and_self]
  rw [hk,if_neg (by decide),hw,if_neg (by simp)]
  simp only [List.map_cons,List.map_nil,Lex.mk_of]
/-! What field's functions tell of what is parsed. -/
theorem top_bd (kind:Int)(hk:(Lex.limits kind).2.2=0):∃ lo hi:Nat,(Lex.limits kind).1=lo∧top kind=hi∧lo≤hi∧hi≤59:=by
  have hl:=Fld.limits_bd kind hk
  by_cases h4:kind=4
  · subst h4; exact ⟨0,6,rfl,rfl,by decide,by decide⟩
  · refine ⟨(Lex.limits kind).1.toNat,(Lex.limits kind).2.1.toNat,by omega,?_,by omega,by omega⟩
    unfold top
    rw [if_neg h4]
    omega
theorem star_is {s:ByteArray}(h:s.toList=[42]):s=⟨#[42]⟩ :=B_ext (by rw [← toList_of,h])
/-- What is parsed may be a field. -/
theorem parse_check (s:ByteArray)(kind:Int)(h:(Fld.parse s kind).2.2=0):field_Check.f (Fld.parse s kind).1 (Fld.parse s kind).2.1 kind=some 0:=by
  obtain ⟨hk,hin,hst,hlim,⟨i,hi⟩,-,-,-⟩ :=parse_in s kind h
  obtain ⟨lo,hi',hlo,hhi,h1,h2⟩ :=top_bd kind hk
  rw [check_f _ _ kind lo hi' hk hlo hhi h1 h2]
  rw [if_neg (by intro e; rw [e,bit_zero] at hi; cases hi)]
  rw [if_pos ((andNot_zero _ _ hin (ev_in lo hi' (by omega))).2 (fun j _ hj=>by
    obtain ⟨q1,q2⟩ :=hlim j hj
    rw [bit_ev lo hi' j (by omega),decide_eq_true (by omega),decide_eq_true (by omega)]; rfl))]
  cases hs:(Fld.parse s kind).2.1
  · rfl
  · rw [if_pos rfl]
    rw [hst] at hs
    obtain rfl:=star_is (beq_iff_eq.1 hs)
    rw [parse_star kind lo hi' hk hlo hhi,if_pos rfl]
theorem parse_f (s:ByteArray)(kind:Int)(h:s.size≤1000000):field_Parse.f s kind=some (Fld.parse s kind):=by unfold field_Parse.f; rw [if_pos h]
/-! What spec.Parse tells, over its words. -/
theorem Spc.word_size (s:ByteArray)(h:(Lex.fields s).2=0)(k:Nat):(Spc.word (Lex.fields s).1 k).size≤1000000:=by
  have key:s.size≤256∧(Lex.fields s).1=Lib.goFieldsP Lex.blankN s:=by
    unfold Lex.fields at h ⊢
    split at h
    · exact absurd h (by decide)
    · rename_i h1
      rw [if_neg h1]
      split at h
      · exact absurd h (by decide)
      · rename_i h2
        rw [if_neg h2]
        split at h
        · exact absurd h (by decide)
        · rename_i h3
          rw [if_neg h3]
          exact ⟨by omega,rfl⟩
  obtain ⟨hs,hl⟩ :=key
  rw [hl]
  unfold Spc.word
  have hall:∀ x ∈ Lib.goFieldsP Lex.blankN s,x.size≤s.size:=by
    intro x hx
    unfold Lib.goFieldsP at hx
    obtain ⟨p,_,rfl⟩ :=List.mem_map.1 hx
    rw [ByteArray.size_extract]
    omega
  by_cases hk:k < (Lib.goFieldsP Lex.blankN s).length
  · rw [List.getD_eq_getElem?_getD,List.getElem?_eq_getElem hk]
    have:=hall _ (List.getElem_mem hk)
    simp only [Option.getD_some]
    omega
  · rw [List.getD_eq_getElem?_getD,List.getElem?_eq_none (by omega)]
    show (0:Nat)≤1000000
    omega
/-- What word i is parsed to. -/
def Spc.at_ (s:ByteArray)(i:Nat):Int × Bool × Int:=Fld.parse (Spc.word (Lex.fields s).1 i) i
theorem Spc.at_f (s:ByteArray)(h:(Lex.fields s).2=0)(i:Nat):field_Parse.f (Spc.word (Lex.fields s).1 i) (i:Int)=some (Spc.at_ s i):=
  parse_f _ _ (Spc.word_size s h i)
theorem Spc.cases (s : ByteArray) :
    ((Lex.fields s).2≠0∧spec_Parse.f s=some (0,false,0,false,0,false,0,false,0,false,0,(Lex.fields s).2))∨
    ((Lex.fields s).2=0∧∃ j:Nat,j < 5∧(∀ i:Nat,i < j→(Spc.at_ s i).2.2=0)∧(Spc.at_ s j).2.2≠0∧spec_Parse.f s=some (0,false,0,false,0,false,0,false,0,false,(j:Int)+1,(Spc.at_ s j).2.2))∨
    ((Lex.fields s).2=0∧(∀ i:Nat,i < 5→(Spc.at_ s i).2.2=0)∧spec_Parse.f s=some ((Spc.at_ s 0).1,(Spc.at_ s 0).2.1,(Spc.at_ s 1).1,(Spc.at_ s 1).2.1,(Spc.at_ s 2).1,(Spc.at_ s 2).2.1,(Spc.at_ s 3).1,(Spc.at_ s 3).2.1,(Spc.at_ s 4).1,(Spc.at_ s 4).2.1,0,0)):=by
  unfold spec_Parse.f lex_Fields.f
  simp only [Option.bind_some]
  by_cases h:(Lex.fields s).2≠0
  · rw [if_pos h]; exact .inl ⟨h,rfl⟩
  rw [if_neg h]
  have h':(Lex.fields s).2=0:=by simpa using h
  refine .inr ?_
  rw [show field_Parse.f (Spc.word (Lex.fields s).1 0) 0=_ from Spc.at_f s h' 0]
  simp only [Option.bind_some]
  by_cases c0:(Spc.at_ s 0).2.2≠0
  · rw [if_pos c0]; exact .inl ⟨h',0,by omega,fun i hi=>by omega,c0,rfl⟩
  rw [if_neg c0,show field_Parse.f (Spc.word (Lex.fields s).1 1) 1=_ from Spc.at_f s h' 1]
  simp only [Option.bind_some]
  have d0:(Spc.at_ s 0).2.2=0:=by simpa using c0
  by_cases c1:(Spc.at_ s 1).2.2≠0
  · rw [if_pos c1]; exact .inl ⟨h',1,by omega,fun i hi=>by obtain rfl:i=0:=(by omega); exact d0,c1,rfl⟩
  rw [if_neg c1,show field_Parse.f (Spc.word (Lex.fields s).1 2) 2=_ from Spc.at_f s h' 2]
  simp only [Option.bind_some]
  have d1:(Spc.at_ s 1).2.2=0:=by simpa using c1
  by_cases c2:(Spc.at_ s 2).2.2≠0
  · rw [if_pos c2]; exact .inl ⟨h',2,by omega,fun i hi=>by rcases (by omega:i=0∨i=1) with rfl | rfl; exact d0; exact d1,c2,rfl⟩
  rw [if_neg c2,show field_Parse.f (Spc.word (Lex.fields s).1 3) 3=_ from Spc.at_f s h' 3]
  simp only [Option.bind_some]
  have d2:(Spc.at_ s 2).2.2=0:=by simpa using c2
  by_cases c3:(Spc.at_ s 3).2.2≠0
  · rw [if_pos c3]; exact .inl ⟨h',3,by omega,fun i hi=>by rcases (by omega:i=0∨i=1∨i=2) with rfl | rfl | rfl; exact d0; exact d1; exact d2,c3,rfl⟩
  rw [if_neg c3,show field_Parse.f (Spc.word (Lex.fields s).1 4) 4=_ from Spc.at_f s h' 4]
  simp only [Option.bind_some]
  have d3:(Spc.at_ s 3).2.2=0:=by simpa using c3
  by_cases c4:(Spc.at_ s 4).2.2≠0
  · rw [if_pos c4]; exact .inl ⟨h',4,by omega,fun i hi=>by rcases (by omega:i=0∨i=1∨i=2∨i=3) with rfl | rfl | rfl | rfl; exact d0; exact d1; exact d2; exact d3,c4,rfl⟩
  have d4:(Spc.at_ s 4).2.2=0:=by simpa using c4
  rw [if_neg c4]
  exact .inr ⟨h',fun i hi=>by rcases (by omega:i=0∨i=1∨i=2∨i=3∨i=4) with rfl | rfl | rfl | rfl | rfl; exact d0; exact d1; exact d2; exact d3; exact d4,rfl⟩
theorem Spc.words5 (s:ByteArray)(h:(Lex.fields s).2=0):(Lex.fields s).1.length=5:=Spc.fields_len s h
theorem Spc.check_ok (s:ByteArray)(i:Nat)(h:(Spc.at_ s i).2.2=0):field_Check.f (Spc.at_ s i).1 (Spc.at_ s i).2.1 (i:Int)=some 0:=parse_check _ _ h
/-! A spec's text. -/
theorem Shw.oks_all (b:Int)(s:Bool):Shw.Oks (Shw.ftext b s):=Shw.oks_ftext b s
/-- WHAT IS SHOWN OF A SPEC IS PARSED BACK. -/
theorem Shw.spec_back {b0 : Int} {s0 : Bool} {b1 : Int} {s1 : Bool} {b2 : Int} {s2 : Bool} {b3 : Int} {s3 : Bool} {b4 : Int} {s4 : Bool} (u0 : InU b0) (u1 : InU b1) (u2 : InU b2) (u3 : InU b3) (u4 : InU b4)
    (c0:field_Check.f b0 s0 0=some 0) (c1:field_Check.f b1 s1 1=some 0) (c2:field_Check.f b2 s2 2=some 0) (c3:field_Check.f b3 s3 3=some 0) (c4:field_Check.f b4 s4 4=some 0) :
    spec_Parse.f (Shw.stext b0 s0 b1 s1 b2 s2 b3 s3 b4 s4)=some (b0,s0,b1,s1,b2,s2,b3,s3,b4,s4,0,0)∧(Shw.stext b0 s0 b1 s1 b2 s2 b3 s3 b4 s4).size≤256:=by
  obtain ⟨p0,n0,l0⟩ :=Shw.back b0 s0 0 rfl u0 c0
  obtain ⟨p1,n1,l1⟩ :=Shw.back b1 s1 1 rfl u1 c1
  obtain ⟨p2,n2,l2⟩ :=Shw.back b2 s2 2 rfl u2 c2
  obtain ⟨p3,n3,l3⟩ :=Shw.back b3 s3 3 rfl u3 c3
  obtain ⟨p4,n4,l4⟩ :=Shw.back b4 s4 4 rfl u4 c4
  have q0:=l0 0 60 rfl rfl
  have q1:=l1 0 24 rfl rfl
  have q2:=l2 1 32 rfl rfl
  have q3:=l3 1 13 rfl rfl
  have q4:=l4 0 7 rfl rfl
  have w0:Shw.W 0=0:=rfl
  have w1:Shw.W 1=4:=rfl
  have w8:Shw.W (7+1)=32:=rfl
  have w14:Shw.W (13+1)=64:=rfl
  have w25:Shw.W (24+1)=130:=rfl
  have w33:Shw.W (32+1)=178:=rfl
  have w61:Shw.W (60+1)=346:=rfl
  have hsum:(Shw.ftext b0 s0).size+(Shw.ftext b1 s1).size+(Shw.ftext b2 s2).size+(Shw.ftext b3 s3).size+(Shw.ftext b4 s4).size+4≤256:=by omega
  have hf:=Shw.join_fields _ _ _ _ _ n0 n1 n2 n3 n4 (Shw.oks_all b0 s0) (Shw.oks_all b1 s1) (Shw.oks_all b2 s2) (Shw.oks_all b3 s3) (Shw.oks_all b4 s4) hsum
  have h32:(⟨#[32]⟩:ByteArray).size=1:=rfl
  refine ⟨?_,by unfold Shw.stext; simp only [ByteArray.size_append]; omega⟩
  unfold Shw.stext
  unfold spec_Parse.f lex_Fields.f
  rw [hf]
  have pf:∀ (w:ByteArray) (k:Int) (r:Int × Bool × Int),w.size≤256→Fld.parse w k=r→field_Parse.f w k=some r:=fun w k r h q=>by unfold field_Parse.f; rw [if_pos (by omega),q]
  have e0:field_Parse.f (Spc.word [Shw.ftext b0 s0,Shw.ftext b1 s1,Shw.ftext b2 s2,Shw.ftext b3 s3,Shw.ftext b4 s4] 0) 0=some (b0,s0,0):=pf _ _ _ (by show (Shw.ftext b0 s0).size≤256; omega) p0
  have e1:field_Parse.f (Spc.word [Shw.ftext b0 s0,Shw.ftext b1 s1,Shw.ftext b2 s2,Shw.ftext b3 s3,Shw.ftext b4 s4] 1) 1=some (b1,s1,0):=pf _ _ _ (by show (Shw.ftext b1 s1).size≤256; omega) p1
  have e2:field_Parse.f (Spc.word [Shw.ftext b0 s0,Shw.ftext b1 s1,Shw.ftext b2 s2,Shw.ftext b3 s3,Shw.ftext b4 s4] 2) 2=some (b2,s2,0):=pf _ _ _ (by show (Shw.ftext b2 s2).size≤256; omega) p2
  have e3:field_Parse.f (Spc.word [Shw.ftext b0 s0,Shw.ftext b1 s1,Shw.ftext b2 s2,Shw.ftext b3 s3,Shw.ftext b4 s4] 3) 3=some (b3,s3,0):=pf _ _ _ (by show (Shw.ftext b3 s3).size≤256; omega) p3
  have e4:field_Parse.f (Spc.word [Shw.ftext b0 s0,Shw.ftext b1 s1,Shw.ftext b2 s2,Shw.ftext b3 s3,Shw.ftext b4 s4] 4) 4=some (b4,s4,0):=pf _ _ _ (by show (Shw.ftext b4 s4).size≤256; omega) p4
  simp only [Option.bind_some,ne_eq,not_true_eq_false,if_false,e0,e1,e2,e3,e4]
/-! What a text is tidied to. -/
theorem Shw.kind_ok {b:Int}{s:Bool}{kind:Int}(h:field_Check.f b s kind=some 0):(Lex.limits kind).2.2=0:=by
  unfold field_Check.f at h
  rw [Fld.limits_f] at h
  simp only [Option.bind_some] at h
  by_cases hk:(Lex.limits kind).2.2=0
  · exact hk
  · rw [if_neg hk] at h
    exact Option.some.inj h
theorem Shw.at_in (s:ByteArray)(i:Nat)(h:(Spc.at_ s i).2.2=0):InU (Spc.at_ s i).1:=(parse_in _ _ h).2.1
/-- A text is no spec's, or it is one's that may be. -/
theorem Shw.parse_cases (s : ByteArray) :
    (∃ n e:Int,spec_Parse.f s=some (0,false,0,false,0,false,0,false,0,false,n,e)∧e≠0∧0≤n∧n≤5)∨
    (∃ (b0:Int) (s0:Bool) (b1:Int) (s1:Bool) (b2:Int) (s2:Bool) (b3:Int) (s3:Bool) (b4:Int) (s4:Bool),spec_Parse.f s=some (b0,s0,b1,s1,b2,s2,b3,s3,b4,s4,0,0)∧
      (InU b0∧InU b1∧InU b2∧InU b3∧InU b4)∧field_Check.f b0 s0 0=some 0∧field_Check.f b1 s1 1=some 0∧field_Check.f b2 s2 2=some 0∧field_Check.f b3 s3 3=some 0∧field_Check.f b4 s4 4=some 0):=by
  rcases Spc.cases s with ⟨h,e⟩ | ⟨h,j,hj,ha,hne,e⟩ | ⟨h,ha,e⟩
  · exact .inl ⟨0,_,e,h,by decide,by decide⟩
  · exact .inl ⟨_,_,e,hne,by omega,by omega⟩
  · refine .inr ⟨_,_,_,_,_,_,_,_,_,_,e,⟨?_,?_,?_,?_,?_⟩,?_,?_,?_,?_,?_⟩
    · exact Shw.at_in s 0 (ha 0 (by decide))
    · exact Shw.at_in s 1 (ha 1 (by decide))
    · exact Shw.at_in s 2 (ha 2 (by decide))
    · exact Shw.at_in s 3 (ha 3 (by decide))
    · exact Shw.at_in s 4 (ha 4 (by decide))
    · exact Spc.check_ok s 0 (ha 0 (by decide))
    · exact Spc.check_ok s 1 (ha 1 (by decide))
    · exact Spc.check_ok s 2 (ha 2 (by decide))
    · exact Spc.check_ok s 3 (ha 3 (by decide))
    · exact Spc.check_ok s 4 (ha 4 (by decide))
theorem Shw.spec_check {b0 : Int} {s0 : Bool} {b1 : Int} {s1 : Bool} {b2 : Int} {s2 : Bool} {b3 : Int} {s3 : Bool} {b4 : Int} {s4 : Bool}
    (c0:field_Check.f b0 s0 0=some 0) (c1:field_Check.f b1 s1 1=some 0) (c2:field_Check.f b2 s2 2=some 0) (c3:field_Check.f b3 s3 3=some 0) (c4:field_Check.f b4 s4 4=some 0) :
    spec_Check.f b0 s0 b1 s1 b2 s2 b3 s3 b4 s4=some (0,0):=by
  unfold spec_Check.f
  simp only [c0,c1,c2,c3,c4,Option.bind_some,ne_eq,not_true_eq_false,if_false]
/-- What show.Spec tells: the check's error, or the text. -/
def Shw.spec (b0:Int)(s0:Bool)(b1:Int)(s1:Bool)(b2:Int)(s2:Bool)(b3:Int)(s3:Bool)(b4:Int)(s4:Bool):Option (ByteArray × Int × Int):=
  (spec_Check.f b0 s0 b1 s1 b2 s2 b3 s3 b4 s4).bind fun p=>if p.2≠0 then some (⟨#[]⟩,p.1,p.2) else some (Shw.stext b0 s0 b1 s1 b2 s2 b3 s3 b4 s4,0,0)
theorem Shw.spec_ok {b0 : Int} {s0 : Bool} {b1 : Int} {s1 : Bool} {b2 : Int} {s2 : Bool} {b3 : Int} {s3 : Bool} {b4 : Int} {s4 : Bool}
    (c0:field_Check.f b0 s0 0=some 0) (c1:field_Check.f b1 s1 1=some 0) (c2:field_Check.f b2 s2 2=some 0) (c3:field_Check.f b3 s3 3=some 0) (c4:field_Check.f b4 s4 4=some 0) :
    Shw.spec b0 s0 b1 s1 b2 s2 b3 s3 b4 s4=some (Shw.stext b0 s0 b1 s1 b2 s2 b3 s3 b4 s4,0,0):=by
  unfold Shw.spec
  rw [Shw.spec_check c0 c1 c2 c3 c4]
  simp only [Option.bind_some,ne_eq,not_true_eq_false,if_false]
theorem Shw.checks_some (b:Int)(s:Bool)(i:Nat)(hi:i < 5):∃ e,field_Check.f b s (i:Int)=some e:=by
  obtain ⟨lo,hi',e1,e2,e3,e4⟩ :=top_bd (i:Int) (by rcases (by omega:i=0∨i=1∨i=2∨i=3∨i=4) with rfl | rfl | rfl | rfl | rfl <;> rfl)
  rw [check_f b s (i:Int) lo hi' (by rcases (by omega:i=0∨i=1∨i=2∨i=3∨i=4) with rfl | rfl | rfl | rfl | rfl <;> rfl) e1 e2 e3 e4]
  repeat' split
  all_goals exact ⟨_,rfl⟩
theorem Shw.spec_some (b0:Int)(s0:Bool)(b1:Int)(s1:Bool)(b2:Int)(s2:Bool)(b3:Int)(s3:Bool)(b4:Int)(s4:Bool):∃ n e,spec_Check.f b0 s0 b1 s1 b2 s2 b3 s3 b4 s4=some (n,e):=by
  obtain ⟨e0,h0⟩ :=Shw.checks_some b0 s0 0 (by decide)
  obtain ⟨e1,h1⟩ :=Shw.checks_some b1 s1 1 (by decide)
  obtain ⟨e2,h2⟩ :=Shw.checks_some b2 s2 2 (by decide)
  obtain ⟨e3,h3⟩ :=Shw.checks_some b3 s3 3 (by decide)
  obtain ⟨e4,h4⟩ :=Shw.checks_some b4 s4 4 (by decide)
  unfold spec_Check.f
  simp only [show field_Check.f b0 s0 0=_ from h0,show field_Check.f b1 s1 1=_ from h1,show field_Check.f b2 s2 2=_ from h2,show field_Check.f b3 s3 3=_ from h3,show field_Check.f b4 s4 4=_ from h4,Option.bind_some]
  repeat' split
  all_goals exact ⟨_,_,rfl⟩
/-- What show.Spec tells, one way or the other. -/
theorem Shw.spec_cases {b0 : Int} {s0 : Bool} {b1 : Int} {s1 : Bool} {b2 : Int} {s2 : Bool} {b3 : Int} {s3 : Bool} {b4 : Int} {s4 : Bool} (u0 : InU b0) (u1 : InU b1) (u2 : InU b2) (u3 : InU b3) (u4 : InU b4) :
    (∃ n e,Shw.spec b0 s0 b1 s1 b2 s2 b3 s3 b4 s4=some (⟨#[]⟩,n,e)∧spec_Check.f b0 s0 b1 s1 b2 s2 b3 s3 b4 s4=some (n,e)∧e≠0∧1≤n∧n≤5)∨
    (Shw.spec b0 s0 b1 s1 b2 s2 b3 s3 b4 s4=some (Shw.stext b0 s0 b1 s1 b2 s2 b3 s3 b4 s4,0,0)∧spec_Check.f b0 s0 b1 s1 b2 s2 b3 s3 b4 s4=some (0,0)∧spec_Parse.f (Shw.stext b0 s0 b1 s1 b2 s2 b3 s3 b4 s4)=some (b0,s0,b1,s1,b2,s2,b3,s3,b4,s4,0,0)∧(Shw.stext b0 s0 b1 s1 b2 s2 b3 s3 b4 s4).size≤256):=by
  obtain ⟨n,e,h⟩ :=Shw.spec_some b0 s0 b1 s1 b2 s2 b3 s3 b4 s4
  rcases Shw.check_cases _ _ _ _ _ _ _ _ _ _ _ _ h with ⟨q,q1,q2⟩ | ⟨rfl,rfl,c0,c1,c2,c3,c4⟩
  · exact .inl ⟨n,e,by unfold Shw.spec; rw [h]; simp only [Option.bind_some]; rw [if_pos q],h,q,q1,q2⟩
  · exact .inr ⟨Shw.spec_ok c0 c1 c2 c3 c4,h,Shw.spec_back u0 u1 u2 u3 u4 c0 c1 c2 c3 c4⟩
/-- WHAT IS TIDIED TWICE IS AS TIDIED ONCE. -/
def Shw.tidy (s:ByteArray):Option (ByteArray × Int × Int):=
  (spec_Parse.f s).bind fun p=>if p.2.2.2.2.2.2.2.2.2.2.2≠0 then some (⟨#[]⟩,p.2.2.2.2.2.2.2.2.2.2.1,p.2.2.2.2.2.2.2.2.2.2.2) else Shw.spec p.1 p.2.1 p.2.2.1 p.2.2.2.1 p.2.2.2.2.1 p.2.2.2.2.2.1 p.2.2.2.2.2.2.1 p.2.2.2.2.2.2.2.1 p.2.2.2.2.2.2.2.2.1 p.2.2.2.2.2.2.2.2.2.1
theorem Shw.tidy_cases (s : ByteArray) :
    (∃ n e:Int,Shw.tidy s=some (⟨#[]⟩,n,e)∧spec_Parse.f s=some (0,false,0,false,0,false,0,false,0,false,n,e)∧e≠0∧0≤n∧n≤5)∨
    (∃ t:ByteArray,Shw.tidy s=some (t,0,0)∧Shw.tidy t=some (t,0,0)∧spec_Parse.f t=spec_Parse.f s∧t.size≤256∧∃ (b0:Int) (s0:Bool) (b1:Int) (s1:Bool) (b2:Int) (s2:Bool) (b3:Int) (s3:Bool) (b4:Int) (s4:Bool),spec_Parse.f s=some (b0,s0,b1,s1,b2,s2,b3,s3,b4,s4,0,0)∧Shw.spec b0 s0 b1 s1 b2 s2 b3 s3 b4 s4=some (t,0,0)):=by
  rcases Shw.parse_cases s with ⟨n,e,h,q,q1,q2⟩ | ⟨b0,s0,b1,s1,b2,s2,b3,s3,b4,s4,h,⟨u0,u1,u2,u3,u4⟩,c0,c1,c2,c3,c4⟩
  · exact .inl ⟨n,e,by unfold Shw.tidy; rw [h]; simp only [Option.bind_some]; rw [if_pos q],h,q,q1,q2⟩
  · have ok:=Shw.spec_ok c0 c1 c2 c3 c4
    obtain ⟨bk,sz⟩ :=Shw.spec_back u0 u1 u2 u3 u4 c0 c1 c2 c3 c4
    refine .inr ⟨_,?_,?_,by rw [h]; exact bk,sz,b0,s0,b1,s1,b2,s2,b3,s3,b4,s4,h,ok⟩
    · unfold Shw.tidy; rw [h]; simp only [Option.bind_some,ne_eq,not_true_eq_false,if_false]; exact ok
    · unfold Shw.tidy; rw [bk]; simp only [Option.bind_some,ne_eq,not_true_eq_false,if_false]; exact ok
/-! show.Field and show.Spec, one way or the other. -/
theorem Shw.fieldF_ok {b:Int}{s:Bool}{kind:Int}(hb:InU b)(c:field_Check.f b s kind=some 0):Shw.fieldF b s kind=some (Shw.ftext b s,0):=by
  unfold Shw.fieldF
  rw [if_pos (show 0≤b∧b < 18446744073709551616 from hb),c]
  simp only [Option.bind_some,ne_eq,not_true_eq_false,if_false]
theorem Shw.fieldF_bad {b:Int}{s:Bool}{kind e:Int}(hb:InU b)(c:field_Check.f b s kind=some e)(he:e≠0):Shw.fieldF b s kind=some (⟨#[]⟩,e):=by
  unfold Shw.fieldF
  rw [if_pos (show 0≤b∧b < 18446744073709551616 from hb),c]
  simp only [Option.bind_some]
  rw [if_pos he]
theorem Shw.check_some (b:Int)(s:Bool)(kind:Int):∃ e,field_Check.f b s kind=some e:=by
  by_cases hk:(Lex.limits kind).2.2=0
  · obtain ⟨lo,hi',e1,e2,e3,e4⟩ :=top_bd kind hk
    rw [check_f b s kind lo hi' hk e1 e2 e3 e4]
    repeat' split
    all_goals exact ⟨_,rfl⟩
  · unfold field_Check.f
    rw [Fld.limits_f]
    simp only [Option.bind_some]
    rw [if_neg hk]
    exact ⟨_,rfl⟩
theorem Shw.field_cases (b : Int) (s : Bool) (kind : Int) (hb : InU b) :
    (∃ e,e≠0∧field_Check.f b s kind=some e∧Shw.fieldF b s kind=some (⟨#[]⟩,e))∨
    (field_Check.f b s kind=some 0∧Shw.fieldF b s kind=some (Shw.ftext b s,0)∧field_Parse.f (Shw.ftext b s) kind=some (b,s,0)∧(Shw.ftext b s).size≠0∧(Shw.ftext b s).size≤256):=by
  obtain ⟨e,c⟩ :=Shw.check_some b s kind
  by_cases he:e=0
  · subst he
    have hk:=Shw.kind_ok c
    obtain ⟨p,n,l⟩ :=Shw.back b s kind hk hb c
    obtain ⟨lo,hi,e1,e2,e3,e4⟩ :=top_bd kind hk
    have q:=l lo (hi+1) e1 (by omega)
    have hw:=Shw.W_mono (show hi+1+1≤61 by omega)
    have w61:Shw.W 61=346:=rfl
    exact .inr ⟨c,Shw.fieldF_ok hb c,by rw [parse_f _ _ (by omega),p],n,by omega⟩
  · exact .inl ⟨e,he,c,Shw.fieldF_bad hb c he⟩
theorem Shw.specF_eq {b0 : Int} {s0 : Bool} {b1 : Int} {s1 : Bool} {b2 : Int} {s2 : Bool} {b3 : Int} {s3 : Bool} {b4 : Int} {s4 : Bool} (u0 : InU b0) (u1 : InU b1) (u2 : InU b2) (u3 : InU b3) (u4 : InU b4) :
    Shw.specF b0 s0 b1 s1 b2 s2 b3 s3 b4 s4=Shw.spec b0 s0 b1 s1 b2 s2 b3 s3 b4 s4:=by
  obtain ⟨n,e,h⟩ :=Shw.spec_some b0 s0 b1 s1 b2 s2 b3 s3 b4 s4
  unfold Shw.specF Shw.spec
  rw [h]
  simp only [Option.bind_some]
  rcases Shw.check_cases _ _ _ _ _ _ _ _ _ _ _ _ h with ⟨q,_,_⟩ | ⟨rfl,rfl,c0,c1,c2,c3,c4⟩
  · rw [if_pos q,if_pos q]
  · simp only [ne_eq,not_true_eq_false,if_false]
    rw [Shw.fieldF_ok u0 c0,Shw.fieldF_ok u1 c1,Shw.fieldF_ok u2 c2,Shw.fieldF_ok u3 c3,Shw.fieldF_ok u4 c4]
    simp only [Option.bind_some]
    have n0:=(Shw.back b0 s0 0 rfl u0 c0).2.1
    have e0:Shw.addB ⟨#[]⟩ (Shw.ftext b0 s0)=Shw.ftext b0 s0:=by unfold Shw.addB; rw [if_pos (show (⟨#[]⟩:ByteArray).size=0 from rfl)]
    have st:∀ (a t:ByteArray),a.size≠0→Shw.addB a t=a ++ (⟨#[32]⟩:ByteArray) ++ t∧(a ++ (⟨#[32]⟩:ByteArray) ++ t).size≠0:=by
      intro a t ha
      refine ⟨by unfold Shw.addB; rw [if_neg ha],?_⟩
      simp only [ByteArray.size_append]
      omega
    have s1':=st _ (Shw.ftext b1 s1) n0
    have s2':=st _ (Shw.ftext b2 s2) s1'.2
    have s3':=st _ (Shw.ftext b3 s3) s2'.2
    have s4':=st _ (Shw.ftext b4 s4) s3'.2
    rw [e0,s1'.1,s2'.1,s3'.1,s4'.1]
    rfl
/-- UNLIKE SPECS HAVE UNLIKE TEXTS. -/
theorem Shw.stext_inj {b0 : Int} {s0 : Bool} {b1 : Int} {s1 : Bool} {b2 : Int} {s2 : Bool} {b3 : Int} {s3 : Bool} {b4 : Int} {s4 : Bool} {d0 : Int} {t0 : Bool} {d1 : Int} {t1 : Bool} {d2 : Int} {t2 : Bool} {d3 : Int} {t3 : Bool} {d4 : Int} {t4 : Bool}
    (h1:spec_Parse.f (Shw.stext b0 s0 b1 s1 b2 s2 b3 s3 b4 s4)=some (b0,s0,b1,s1,b2,s2,b3,s3,b4,s4,0,0)) (h2:spec_Parse.f (Shw.stext d0 t0 d1 t1 d2 t2 d3 t3 d4 t4)=some (d0,t0,d1,t1,d2,t2,d3,t3,d4,t4,0,0)) :
    Shw.stext b0 s0 b1 s1 b2 s2 b3 s3 b4 s4=Shw.stext d0 t0 d1 t1 d2 t2 d3 t3 d4 t4↔b0=d0∧s0=t0∧b1=d1∧s1=t1∧b2=d2∧s2=t2∧b3=d3∧s3=t3∧b4=d4∧s4=t4:=by
  constructor
  · intro e
    rw [e,h2] at h1
    simp only [Option.some.injEq,Prod.mk.injEq,and_true] at h1
    obtain ⟨a0,a1,a2,a3,a4,a5,a6,a7,a8,a9⟩ :=h1
    exact ⟨a0.symm,a1.symm,a2.symm,a3.symm,a4.symm,a5.symm,a6.symm,a7.symm,a8.symm,a9.symm⟩
  · rintro ⟨rfl,rfl,rfl,rfl,rfl,rfl,rfl,rfl,rfl,rfl⟩
    rfl
theorem Shw.wf {a:Int}(h:(Lit.int .u64 a).wf=true):InU a:=by
  unfold InU
  simp [Lit.wf] at h
  obtain ⟨h1,h2⟩ :=h
  have h1':(0:Int)≤a:=h1
  have h2':a≤18446744073709551615:=h2
  omega
theorem Shw.nil_list:(⟨#[]⟩:ByteArray).toList=([]:List UInt8):=by rw [toList_of]
theorem Shw.spec_f {b0:Int}{s0:Bool}{b1:Int}{s1:Bool}{b2:Int}{s2:Bool}{b3:Int}{s3:Bool}{b4:Int}{s4:Bool}(u0:InU b0)(u1:InU b1)(u2:InU b2)(u3:InU b3)(u4:InU b4):show_Spec.f b0 s0 b1 s1 b2 s2 b3 s3 b4 s4=Shw.spec b0 s0 b1 s1 b2 s2 b3 s3 b4 s4:=Shw.specF_eq u0 u1 u2 u3 u4
theorem Shw.tidy_f (s:ByteArray):show_Tidy.f s=Shw.tidy s:=by
  unfold show_Tidy.f Shw.tidy
  rcases Shw.parse_cases s with ⟨n,e,h,q,q1,q2⟩ | ⟨b0,s0,b1,s1,b2,s2,b3,s3,b4,s4,h,⟨u0,u1,u2,u3,u4⟩,c0,c1,c2,c3,c4⟩
  · rw [h]
    simp only [Option.bind_some]
    rw [if_neg q,if_pos q]
  · rw [h]
    simp only [Option.bind_some,if_true]
    rw [Shw.spec_f u0 u1 u2 u3 u4,Shw.spec_ok c0 c1 c2 c3 c4]
    rfl
end Go.Proofs.YtcmmmlenaahaeaaGreatDoor.PShw
