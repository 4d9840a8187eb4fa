-- Written by a program of this session (gprint.py) over the kit's print.
import Derived.Test.YtcmmmlenaahaeaaGreatDoorPShwx0
import Derived.Test.YtcmmmlenaahaeaaGreatDoorPShwx3
namespace Go.Proofs.YtcmmmlenaahaeaaGreatDoor.PShw
open Go.RowKit Go.Proofs.YtcmmmlenaahaeaaGreatDoorW.PrintWords Go.Proofs.YtcmmmlenaahaeaaGreatDoorW.PrintLast Go.Proofs.YtcmmmlenaahaeaaGreatDoorW.PrintMore
attribute [local go_sem] max2_int min2_int max_two min_two max_three min_three max_four min_four
set_option linter.unusedVariables false
set_option linter.unusedSimpArgs false
/-! What show tells of a field, as a text. -/
def Shw.dg (n:Nat):ByteArray:=if n < 10 then ⟨#[(48+n).toUInt8]⟩ else ⟨#[(48+n / 10).toUInt8,(48+n % 10).toUInt8]⟩
def Shw.add (acc s:ByteArray):ByteArray:=if acc.size=0 then s else acc ++ (⟨#[44]⟩:ByteArray) ++ s
def Shw.item (acc:ByteArray)(a b:Nat):ByteArray:=
 if b=a then Shw.add acc (Shw.dg a) else if b=a+1 then Shw.add (Shw.add acc (Shw.dg a)) (Shw.dg b) else Shw.add acc (Shw.dg a ++ (⟨#[45]⟩:ByteArray) ++ Shw.dg b)
/-- The first place from v on that is not there. -/
def Shw.stop (p:Nat→Bool):Nat→Nat→Nat
 | 0,v=>v
 | f+1,v=>if p v=true then Shw.stop p f (v+1) else v
/-- The first place from v on that is there. -/
def Shw.fst (p:Nat→Bool):Nat→Nat→Option Nat
 | 0,_=>none
 | f+1,v=>if p v=true then some v else Shw.fst p f (v+1)
def Shw.runs (p:Nat→Bool):Nat→Nat→List (Nat × Nat)
 | 0,_=>[]
 | f+1,v=>match Shw.fst p (64 - v) v with
  | none=>[]
  | some a=>(a,Shw.stop p (64 - a) a - 1) :: Shw.runs p f (Shw.stop p (64 - a) a)
def Shw.fold (l:List (Nat × Nat))(acc:ByteArray):ByteArray:=l.foldl (fun acc r=>Shw.item acc r.1 r.2) acc
def Shw.text (p:Nat→Bool):ByteArray:=Shw.fold (Shw.runs p 64 0) ⟨#[]⟩
def Shw.ftext (b:Int)(s:Bool):ByteArray:=if s=true then ⟨#[42]⟩ else Shw.text (fun i=>b.toNat.testBit i)
def Shw.stext (b0:Int)(s0:Bool)(b1:Int)(s1:Bool)(b2:Int)(s2:Bool)(b3:Int)(s3:Bool)(b4:Int)(s4:Bool):ByteArray:=
 Shw.ftext b0 s0 ++ (⟨#[32]⟩:ByteArray) ++ Shw.ftext b1 s1 ++ (⟨#[32]⟩:ByteArray) ++ Shw.ftext b2 s2 ++ (⟨#[32]⟩:ByteArray) ++ Shw.ftext b3 s3 ++ (⟨#[32]⟩:ByteArray) ++ Shw.ftext b4 s4
/-- What show.Field tells. -/
def Shw.fieldF (b:Int)(s:Bool)(kind:Int):Option (ByteArray × Int):=
 if 0≤b∧b < 18446744073709551616 then (field_Check.f b s kind).bind fun e=>if e≠0 then some (⟨#[]⟩,e) else some (Shw.ftext b s,0) else none
def Shw.addB (acc s:ByteArray):ByteArray:=if acc.size=0 then s else acc ++ (⟨#[32]⟩:ByteArray) ++ s
/-! What field's First and Has tell, in bits (ahead of show's walks). -/
theorem Shw.u64w (z:Int):IntKind.u64.wrap z=z % 18446744073709551616:=by simp [IntKind.wrap,IntKind.bits,IntKind.signed]
def Shw.InU (b:Int):Prop:=0≤b∧b < 18446744073709551616
theorem Shw.nat_of (b:Int)(h:Shw.InU b):∃ n:Nat,b=n∧n < 2 ^ 64:=by
 obtain ⟨n,rfl⟩ :=Int.eq_ofNat_of_zero_le h.1
 exact ⟨n,rfl,by have:=h.2; omega⟩
theorem Shw.bits_u64 (a b:Nat)(ha:a < 2 ^ 64)(hb:b < 2 ^ 64):Go.bits .and .u64 a b=((a &&& b:Nat):Int)∧Go.bits .or .u64 a b=((a ||| b:Nat):Int):=
 bits_nat .u64 64 (by decide) (fun z h0 h1=>IntWalk.u64_in z ⟨h0,by omega⟩) a b ha hb
theorem Shw.shr_nat (a n:Nat)(h:n < 64):shr .u64 (a:Int) (n:Int)=((a / 2 ^ n:Nat):Int):=by
 unfold shr
 rw [show min ((n:Int).toNat) (IntKind.bits .u64)=n by simp [IntKind.bits]; omega]
 rw [show (2:Int) ^ n=((2 ^ n:Nat):Int) by simp]
 simp
theorem Shw.shl_nat (a n:Nat)(h:n < 64):shl .u64 (a:Int) (n:Int)=((a*2 ^ n % 2 ^ 64:Nat):Int):=by
 unfold shl
 rw [Shw.u64w,show min ((n:Int).toNat) (IntKind.bits .u64)=n by simp [IntKind.bits]; omega]
 rw [show (2:Int) ^ n=((2 ^ n:Nat):Int) by simp]
 generalize 2 ^ n=q
 rw [show (2:Nat) ^ 64=18446744073709551616 by decide,Int.natCast_emod,Int.natCast_mul]
 rfl
theorem Shw.has_f (b:Int)(s:Bool)(v:Int)(hb:Shw.InU b):field_Has.f b s v=some (decide (0≤v) && decide (v < 64) && b.toNat.testBit v.toNat):=by
 obtain ⟨n,rfl,hn⟩ :=Shw.nat_of b hb
 unfold field_Has.f
 by_cases h0:v≥0
 ·rw [if_pos h0]
  by_cases h1:v < 64
  ·rw [if_pos h1]
   obtain ⟨m,rfl⟩ :=Int.eq_ofNat_of_zero_le h0
   have hw:IntKind.u64.wrap (m:Int)=m:=by rw [Shw.u64w]; omega
   rw [hw,if_pos (by omega),Shw.shr_nat n m (by omega),show (1:Int)=((1:Nat):Int) from rfl,(Shw.bits_u64 _ 1 (by have:=Nat.div_le_self n (2 ^ m); omega) (by decide)).1]
   congr 1
   rw [Int.toNat_natCast,Int.toNat_natCast,decide_eq_true (by omega),decide_eq_true h1,Nat.testBit,Nat.shiftRight_eq_div_pow,Nat.and_comm]
   simp only [Bool.true_and]
   rw [Bool.eq_iff_iff]
   simp only [beq_iff_eq,bne_iff_ne]
   have:1 &&& (n / 2 ^ m) < 2:=Nat.lt_of_le_of_lt Nat.and_le_left (by decide)
   omega
  ·rw [if_neg h1,decide_eq_false h1]; simp
 ·rw [if_neg h0,decide_eq_false h0]; simp
theorem Shw.first_ntz:∀ (d m n:Nat),n < 2 ^ (m+d)→Shw.fst (fun i=>n.testBit i) d m=if n / 2 ^ m=0 then none else some (m+Fld.ntzN d (n / 2 ^ m))
 | 0,m,n,h=>by rw [if_pos (Nat.div_eq_of_lt (by simpa using h))]; rfl
 | d+1,m,n,h=>by
  have ih:=Shw.first_ntz d (m+1) n (by rw [show m+1+d=m+(d+1) by omega]; exact h)
  have hq:n / 2 ^ (m+1)=n / 2 ^ m / 2:=by rw [Nat.pow_succ,Nat.div_div_eq_div_mul]
  have ht:n.testBit m=decide (n / 2 ^ m % 2=1):=Nat.testBit_eq_decide_div_mod_eq
  unfold Shw.fst
  rw [ht,ih,hq]
  generalize n / 2 ^ m=q
  by_cases h1:q % 2=1
  ·rw [decide_eq_true h1,if_pos rfl,if_neg (by omega)]
   unfold Fld.ntzN
   rw [if_pos h1]
   rfl
  ·rw [decide_eq_false h1,if_neg (by decide)]
   by_cases h2:q=0
   ·rw [if_pos (by omega),if_pos h2]
   ·rw [if_neg (by omega),if_neg h2]
    show _=some (m+Fld.ntzN (d+1) q)
    rw [Fld.ntzN,if_neg h1]
    congr 1
    omega
theorem Shw.ntz_shift:∀ (m f q:Nat),Fld.ntzN (m+f) (q*2 ^ m)=m+Fld.ntzN f q
 | 0,f,q=>by simp
 | m+1,f,q=>by
  rw [show m+1+f=(m+f)+1 by omega,Fld.ntzN]
  have h1:q*2 ^ (m+1)=2*(q*2 ^ m):=by rw [Nat.pow_succ,← Nat.mul_assoc,Nat.mul_comm]
  rw [h1,if_neg (by omega),Nat.mul_div_cancel_left _ (by decide),Shw.ntz_shift m f q]
  omega
theorem Shw.first_f (b:Int)(s:Bool)(hb:Shw.InU b)(n:Nat):field_First.f b s (n:Int)=some (match Shw.fst (fun i=>b.toNat.testBit i) (64 - n) n with | some i=>((i:Int),true) | none=>(0,false)):=by
 unfold field_First.f
 have hm:mx (n:Int) 0=n:=by unfold mx; split <;> omega
 rw [hm]
 obtain ⟨x,rfl,hx⟩ :=Shw.nat_of b hb
 by_cases h:(n:Int) > 63
 ·rw [if_pos h,show 64 - n=0 by omega]; rfl
 ·have hw:IntKind.u64.wrap (n:Int)=n:=by rw [Shw.u64w]; omega
  rw [if_neg h,hw,if_pos (by omega),Shw.shr_nat x n (by omega),Shw.shl_nat (x / 2 ^ n) n (by omega)]
  have hle:=Nat.div_mul_le_self x (2 ^ n)
  rw [Nat.mod_eq_of_lt (Nat.lt_of_le_of_lt hle hx)]
  have q:=Shw.first_ntz (64 - n) n x (by rw [show n+(64 - n)=64 by omega]; exact hx)
  simp only [Int.toNat_natCast]
  rw [q]
  by_cases hz:x / 2 ^ n=0
  ·rw [if_pos hz,if_pos (by rw [hz]; simp)]
  ·have hp:0 < x / 2 ^ n*2 ^ n:=Nat.mul_pos (Nat.pos_of_ne_zero hz) (Nat.two_pow_pos n)
   rw [if_neg hz,if_neg (by omega)]
   unfold bits_TrailingZeros64.f
   rw [show (2:Nat) ^ 64=18446744073709551616 by decide] at hx
   rw [if_pos ⟨by omega,by omega⟩]
   simp only [Option.bind_some]
   unfold Fld.ntz
   rw [Int.toNat_natCast]
   have:=Shw.ntz_shift n (64 - n) (x / 2 ^ n)
   rw [show n+(64 - n)=64 by omega] at this
   rw [this]
/-- The library's digits of a number below 64. -/
theorem Shw.dec_dg (n:Nat)(h:n < 64):(⟨(Lib.decDigits n).toArray⟩:ByteArray)=Shw.dg n:=by
 unfold Shw.dg
 rw [Lib.decDigits]
 by_cases c:n < 10
 ·rw [dif_pos c,if_pos c]
 ·rw [dif_neg c,if_neg c,Lib.decDigits,dif_pos (by omega)]; rfl
theorem Shw.stop_spec (p:Nat→Bool):∀ (f v:Nat),v≤Shw.stop p f v∧Shw.stop p f v≤v+f∧(∀ i,v≤i→i < Shw.stop p f v→p i=true)∧(Shw.stop p f v < v+f→p (Shw.stop p f v)=false):=by
 intro f
 induction f with
 | zero=>intro v; exact ⟨Nat.le_refl _,Nat.le_refl _,fun i h1 h2=>by unfold Shw.stop at h2; omega,fun h=>by unfold Shw.stop at h; omega⟩
 | succ f ih=>
  intro v
  unfold Shw.stop
  by_cases h:p v=true
  ·rw [if_pos h]
   obtain ⟨q1,q2,q3,q4⟩ :=ih (v+1)
   refine ⟨by omega,by omega,fun i h1 h2=>?_,fun h=>q4 (by omega)⟩
   by_cases e:i=v
   ·rw [e]; exact h
   ·exact q3 i (by omega) h2
  ·rw [if_neg h]
   exact ⟨Nat.le_refl _,by omega,fun i h1 h2=>by omega,fun _=>by simpa using h⟩
theorem Shw.fst_some {p:Nat→Bool}:∀ {f v r:Nat},Shw.fst p f v=some r→v≤r∧r < v+f∧p r=true∧∀ i,v≤i→i < r→p i=false:=by
 intro f
 induction f with
 | zero=>intro v r h; cases h
 | succ f ih=>
  intro v r h
  unfold Shw.fst at h
  by_cases c:p v=true
  ·rw [if_pos c] at h
   obtain rfl:=Option.some.inj h
   exact ⟨Nat.le_refl _,by omega,c,fun i h1 h2=>by omega⟩
  ·rw [if_neg c] at h
   obtain ⟨q1,q2,q3,q4⟩ :=ih h
   refine ⟨by omega,by omega,q3,fun i h1 h2=>?_⟩
   by_cases e:i=v
   ·rw [e]; simpa using c
   ·exact q4 i (by omega) h2
theorem Shw.fst_none {p:Nat→Bool}:∀ {f v:Nat},Shw.fst p f v=none→∀ i,v≤i→i < v+f→p i=false:=by
 intro f
 induction f with
 | zero=>intro v h i h1 h2; omega
 | succ f ih=>
  intro v h i h1 h2
  unfold Shw.fst at h
  by_cases c:p v=true
  ·rw [if_pos c] at h; cases h
  ·rw [if_neg c] at h
   by_cases e:i=v
   ·rw [e]; simpa using c
   ·exact ih h i (by omega) (by omega)
/-! A loop from run to run comes to the runs' text (for the document's). -/
def Shw.nx (p:Nat→Bool)(v:Nat):Int × Bool:=match Shw.fst p (64 - v) v with
 | some i=>((i:Int),true)
 | none=>(0,false)
theorem Shw.stop_gt {p:Nat→Bool}{a:Nat}(h:a < 64)(hp:p a=true):a+1≤Shw.stop p (64 - a) a:=by
 obtain ⟨d,hd⟩:∃ d,64 - a=d+1:=⟨63 - a,by omega⟩
 rw [hd,Shw.stop,if_pos hp]
 exact (Shw.stop_spec p d (a+1)).1
/-- The last one of a run, one by one. -/
theorem Shw.loop_end (p:Nat→Bool)(hp:p 64=false)(L:Nat→Int→Option Int)(h1:∀ k (v:Nat),v < 64→p (v+1)=true→L (k+1) (v:Int)=L k ((v+1:Nat):Int))(h0:∀ k (v:Nat),v < 64→p (v+1)=false→L (k+1) (v:Int)=some (v:Int)) :
  ∀ (d v K:Nat),v+d=63→p v=true→L (d+1+K) (v:Int)=some ((Shw.stop p (64 - v) v - 1:Nat):Int):=by
 intro d
 induction d with
 | zero=>
  intro v K h hv
  obtain rfl:v=63:=by omega
  rw [show 0+1+K=K+1 by omega,h0 K 63 (by decide) hp]
  have e:Shw.stop p (64 - 63) 63=64:=by
   show Shw.stop p 1 63=64
   rw [Shw.stop,if_pos hv]; rfl
  rw [e]
 | succ d ih=>
  intro v K h hv
  have e:Shw.stop p (64 - v) v=Shw.stop p (64 - (v+1)) (v+1):=by
   rw [show 64 - v=(64 - (v+1))+1 by omega,Shw.stop,if_pos hv]
  rw [show d+1+1+K=(d+1+K)+1 by omega]
  cases hq:p (v+1) with
  | true=>rw [h1 _ v (by omega) hq,ih (v+1) K (by omega) hq,e]
  | false=>
   rw [h0 _ v (by omega) hq,e]
   obtain ⟨c,hc⟩:∃ c,64 - (v+1)=c+1:=⟨62 - v,by omega⟩
   rw [hc,Shw.stop,hq,if_neg (by decide)]
   rfl
/-! This session's own: strings.Builder within a struct of show (its first field), walked. -/
section
open Go.Shelf
/-- All below B but one block lie as they lay. -/
structure Shw.Fr (B b:Nat) (w w':World):Prop where
 os:w'.os=w.os
 tape:w'.tape=w.tape
 output:w'.output=w.output
 oth:KeepsOthers w w'
 block:∀ k,k < B→k≠b→w'.heap[k]?=w.heap[k]?
theorem Shw.Fr.size {B b:Nat}{w w':World}(h:Shw.Fr B b w w'):w.heap.size≤w'.heap.size:=h.oth.size
theorem Shw.Fr.refl (B b:Nat)(w:World):Shw.Fr B b w w:=⟨rfl,rfl,rfl,KeepsOthers.refl w,fun _ _ _=>rfl⟩
theorem Shw.Fr.trans {B b:Nat}{w w' w2:World}(h:Shw.Fr B b w w')(k:Shw.Fr B b w' w2):Shw.Fr B b w w2:=
 ⟨k.os.trans h.os,k.tape.trans h.tape,k.output.trans h.output,h.oth.trans k.oth,fun i h1 h2=>(k.block i h1 h2).trans (h.block i h1 h2)⟩
theorem Shw.Fr.of_grown {B b:Nat}{w w':World}{row:Option Nat}(h:w.grownBy w' row)(hr:∀ k,row=some k→B≤k)(hB:B≤w.heap.size)(hc:∀ (j:Nat) (o:Obj),row=some j→w.heap[j]?=some o→o.isCells=true):Shw.Fr B b w w':=
 ⟨h.os,h.tape,h.output,KeepsOthers.of_grownBy h hc,fun k h1 _=>h.block k (by omega) (fun e=>by have:=hr k e.symm; omega)⟩
theorem Shw.Fr.of_below {B b:Nat}{w w':World}(h:Below w.heap.size w w')(hB:B≤w.heap.size):Shw.Fr B b w w':=
 Shw.Fr.of_grown (row:=none) ⟨h.os,h.tape,h.output,h.size,fun k hk _=>h.block k hk⟩ (fun _ e=>by cases e) hB (fun _ _ e=>by cases e)
theorem Shw.Fr.set (B b i:Nat)(v:Value)(w:World):Shw.Fr B b w (w.setCell ⟨b,i,none⟩ v):=
 ⟨rfl,rfl,rfl,KeepsOthers.setCell w _ v,fun k _ h2=>Below.heap_setCell _ _ _ _ (fun e=>h2 (by simp [e]))⟩
theorem Shw.Fr.below {B b C:Nat}{w w':World}(h:Shw.Fr B b w w')(h1:C≤B)(h2:C≤b):Below C w w':=⟨h.os,h.tape,h.output,h.size,fun k hk=>h.block k (by omega) (by omega)⟩
/-- The same, of what is no cells nothing is said. -/
structure Shw.Fw (B b:Nat) (w w':World):Prop where
 os:w'.os=w.os
 tape:w'.tape=w.tape
 output:w'.output=w.output
 size:w.heap.size≤w'.heap.size
 block:∀ k,k < B→k≠b→w'.heap[k]?=w.heap[k]?
theorem Shw.Fr.w {B b:Nat}{w w':World}(h:Shw.Fr B b w w'):Shw.Fw B b w w':=⟨h.os,h.tape,h.output,h.oth.size,h.block⟩
theorem Shw.Fw.refl (B b:Nat)(w:World):Shw.Fw B b w w:=(Shw.Fr.refl B b w).w
theorem Shw.Fw.trans {B b:Nat}{w w' w2:World}(h:Shw.Fw B b w w')(k:Shw.Fw B b w' w2):Shw.Fw B b w w2:=
 ⟨k.os.trans h.os,k.tape.trans h.tape,k.output.trans h.output,Nat.le_trans h.size k.size,fun i h1 h2=>(k.block i h1 h2).trans (h.block i h1 h2)⟩
theorem Shw.Fw.of_grown {B b:Nat}{w w':World}{row:Option Nat}(h:w.grownBy w' row)(hr:∀ k,row=some k→B≤k)(hB:B≤w.heap.size):Shw.Fw B b w w':=
 ⟨h.os,h.tape,h.output,h.size,fun k h1 _=>h.block k (by omega) (fun e=>by have:=hr k e.symm; omega)⟩
theorem Shw.Fw.below {B b C:Nat}{w w':World}(h:Shw.Fw B b w w')(h1:C≤B)(h2:C≤b):Below C w w':=⟨h.os,h.tape,h.output,h.size,fun k hk=>h.block k (by omega) (by omega)⟩
/-- A show.text in a block of its own (number b): what it holds are the bytes bs; between lies what stands between. -/
def Shw.At (B b:Nat)(p:Value)(bt:ByteArray)(bs:List Value)(w:World):Prop:=
 ∃ v,w.heap[b]?=some (.cells #[p,v,.string bt] 50 (0,0))∧w.ownsRow B 5 1 v bs.length bs∧v.ownBlock≠some b
def Shw.Is (B b:Nat)(bt:ByteArray)(bs:List Value)(w:World):Prop:=Shw.At B b (.pointer none) bt bs w∨Shw.At B b (.pointer (some ⟨b,0,none⟩)) bt bs w
theorem Shw.Is.at_ {B b:Nat}{bt:ByteArray}{bs:List Value}{w:World}(h:Shw.Is B b bt bs w):∃ p,Shw.At B b p bt bs w:=h.elim (fun h=>⟨_,h⟩) (fun h=>⟨_,h⟩)
theorem Shw.At.kept {B b:Nat}{p:Value}{bt:ByteArray}{bs:List Value}{w w':World}{row:Option Nat}(h:Shw.At B b p bt bs w)(hg:w.grownBy w' row)(h1:some b≠row)(h2:∀ v,w.ownsRow B 5 1 v bs.length bs→w'.ownsRow B 5 1 v bs.length bs):Shw.At B b p bt bs w':=by
 obtain ⟨v,hb,ho,hn⟩ :=h
 exact ⟨v,(hg.block b (blk_lt hb) h1).trans hb,h2 v ho,hn⟩
set_option maxHeartbeats 2000000 in
set_option maxRecDepth 100000 in
theorem Shw.check_used (b:Nat)(w:World)(h0:w.cell? ⟨b,0,none⟩=some (.pointer (some ⟨b,0,none⟩))) :
  Calls Tryz.prog 77 #[.pointer (some ⟨b,0,none⟩)] w fun e w'=>e=.returned (.tuple #[])∧w'=w:=by
 obtain ⟨j,hj,_⟩ :=Option.map_eq_some_iff.1 (show (Tryz.prog.info? 48).map (·.size)=some 2 by kernel_rfl)
 go_enter Tryz.func77,Tryz.ntmps77
 go_wp2
 rw [Lib.run_neq_ptr_same w _ Tryz.underlying45 hj]
 go_wp2
 go_end0
 exact ⟨rfl,rfl⟩
set_option maxHeartbeats 2000000 in
set_option maxRecDepth 100000 in
theorem Shw.check_fresh (b:Nat)(w:World)(h0:w.cell? ⟨b,0,none⟩=some (.pointer none))(hsh:w.shape? b=some (50,3))(hfz:w.frozen? ⟨b,0,none⟩=false) :
  Calls Tryz.prog 77 #[.pointer (some ⟨b,0,none⟩)] w fun e w'=>e=.returned (.tuple #[])∧w'=w.setCell ⟨b,0,none⟩ (.pointer (some ⟨b,0,none⟩)):=by
 obtain ⟨j,hj,hjs⟩ :=Option.map_eq_some_iff.1 (show (Tryz.prog.info? 48).map (·.size)=some 2 by kernel_rfl)
 have hl:liesAt Tryz.prog Tryz.prog.depth 50 (3 / Tryz.prog.cellsOf 50) 0 48 1=true:=by kernel_rfl
 go_enter Tryz.func77,Tryz.ntmps77
 go_wp2
 rw [Lib.run_to_unsafe w ⟨b,0,none⟩ Tryz.underlying45 Tryz.underlying128 hj (by rw [hjs]; decide) hsh (Nat.zero_lt_succ 2)]
 simp only [Result.andThen]
 rw [Oper.upon_value]
 go_wp2
 rw [run_callFunc_extern Tryz.func98 (by kernel_rfl) (by kernel_rfl) (by kernel_rfl) (e:=Extern.AbiNoEscape.same) (by kernel_rfl)]
 rw [Lib.run_noEscape]
 simp only [Result.andThen]
 rw [Oper.upon_value]
 go_wp2
 rw [Lib.run_from_unsafe w ⟨b,0,none⟩ Tryz.underlying128 Tryz.underlying45 hj hsh hl]
 simp only [Result.andThen]
 rw [Oper.upon_value]
 go_wp2
 go_end0
 exact ⟨rfl,rfl⟩
theorem Shw.check (B b:Nat)(bt:ByteArray)(bs:List Value)(w:World)(h:Shw.Is B b bt bs w)(hBw:B≤w.heap.size) :
  Calls Tryz.prog 77 #[.pointer (some ⟨b,0,none⟩)] w fun e w'=>e=.returned (.tuple #[])∧(Shw.At B b (.pointer (some ⟨b,0,none⟩)) bt bs w'∧Shw.Fr B b w w'):=by
 rcases h with ⟨v,hb,ho,hn⟩ | ⟨v,hb,ho,hn⟩
 ·refine (Shw.check_fresh b w ((blk_cell hb 0).trans rfl) (by simp [World.shape?,hb]) (blk_frozen hb 0)).mono ?_
  rintro e w' ⟨rfl,rfl⟩
  refine ⟨rfl,⟨v,blk_put hb 0 _ rfl,?_,hn⟩,Shw.Fr.set B b 0 _ w⟩
  exact ho.kept (row:=some b) ⟨rfl,rfl,rfl,by simp [World.setCell],fun k _ hk=>Below.heap_setCell _ _ _ _ (fun e=>hk (by simp [e]))⟩ (Or.inr hn)
 ·refine (Shw.check_used b w ((blk_cell hb 0).trans rfl)).mono ?_
  rintro e w' ⟨rfl,rfl⟩
  exact ⟨rfl,⟨v,hb,ho,hn⟩,Shw.Fr.refl B b _⟩
set_option maxHeartbeats 2000000 in
set_option maxRecDepth 100000 in
theorem Shw.len_calls (B b:Nat)(bt:ByteArray)(bs:List Value)(w:World)(h:Shw.Is B b bt bs w) :
  Calls Tryz.prog 48 #[.pointer (some ⟨b,0,none⟩)] w fun e w'=>e=.returned (.int .i64 bs.length)∧w'=w:=by
 obtain ⟨p,v,hbk,hown,hne⟩ :=h.at_
 obtain ⟨ao,cap,rfl⟩:∃ ao cap,v=.slice ao bs.length cap:=by
  rcases hown.2 with ⟨hv,h0⟩ | ⟨g,cap,cur,hv,_⟩
  ·exact ⟨none,0,by rw [hv,h0]⟩
  ·exact ⟨_,_,hv⟩
 have c1:w.cell? ⟨b,1,none⟩=some (.slice ao bs.length cap):=(blk_cell hbk 1).trans rfl
 clear hown h hbk
 go_enter Tryz.func48,Tryz.ntmps48
 go_wp2
 go_ret
 exact ⟨rfl,rfl⟩
set_option maxHeartbeats 4000000 in
set_option maxRecDepth 100000 in
theorem Shw.write_calls (B b:Nat)(bt:ByteArray)(bs:List Value)(s:ByteArray)(w:World)(h:Shw.Is B b bt bs w)(hlen:bs.length+s.size≤140737488355328)(hBw:B≤w.heap.size) :
  Calls Tryz.prog 49 #[.pointer (some ⟨b,0,none⟩),.string s] w fun e w'=>e=.returned (.tuple #[.int .i64 s.size,.nilIface])∧(Shw.At B b (.pointer (some ⟨b,0,none⟩)) bt (bs ++ Lib.strCells s) w'∧Shw.Fr B b w w'):=by
 obtain ⟨i0,hi,hz0,hz1,hz2⟩ :=info_parts (show (Tryz.prog.info? 5).map (fun i=>(i.zero,i.size,i.bytes))=some (some (.int .u8 0),1,1) by kernel_rfl)
 have hck:=Lib.hid (fun W h h2=>Shw.check B b bt bs W h h2)
 go_enter Tryz.func49,Tryz.ntmps49
 go_wp2_with fail
 refine (hck.out _ h hBw).mono ?_
 rintro e w1 ⟨rfl,h1,hb1⟩
 obtain ⟨v,hbk,hown,hne⟩ :=h1
 have c0:w1.cell? ⟨b,0,none⟩=some (.pointer (some ⟨b,0,none⟩)):=(blk_cell hbk 0).trans rfl
 have c1:w1.cell? ⟨b,1,none⟩=some v:=(blk_cell hbk 1).trans rfl
 go_wp2_with (at_builtin; refine Lib.wpList_append_own_string _ rfl _ _ 46 9 rfl B 5 i0 Tryz.underlying46 Tryz.underlying9 hi hz0 hz1 hz2 _ _ _ rfl hown s rfl ?c3 ?c4 ?c5 ?_)
 case c3=>unfold maxLen; omega
 case c4=>omega
 case c5=>have:=hb1.size; omega
 intro v' w2 hown' hgrow _
 have hlt:b < w1.heap.size:=blk_lt hbk
 have hcl:∀ (j:Nat) (o:Obj),v.ownBlock=some j→w1.heap[j]?=some o→o.isCells=true:=by
  intro j o e ho
  rcases hown.2 with ⟨hv,_⟩ | ⟨g,cap,cur,hv,_,hg,_⟩
  ·rw [hv] at e; simp [Value.ownBlock] at e
  ·rw [hv] at e
   simp [Value.ownBlock] at e
   subst e
   rw [hg] at ho
   cases ho
   rfl
 have hb2:w2.heap[b]?=some (.cells #[.pointer (some ⟨b,0,none⟩),v,.string bt] 50 (0,0)):=by
  rw [hgrow.block b hlt (fun e=>hne e.symm)]
  exact hbk
 have d0:w2.cell? ⟨b,0,none⟩=some (.pointer (some ⟨b,0,none⟩)):=(blk_cell hb2 0).trans rfl
 have d1:w2.cell? ⟨b,1,none⟩=some v:=(blk_cell hb2 1).trans rfl
 have f1:w2.frozen? ⟨b,1,none⟩=false:=blk_frozen hb2 1
 obtain ⟨ao,n',cap,rfl⟩:∃ ao n' cap,v'=.slice ao n' cap:=by
  rcases hown'.2 with ⟨hv,_⟩ | ⟨g,cap,cur,hv,_⟩
  ·exact ⟨_,_,_,hv⟩
  ·exact ⟨_,_,_,hv⟩
 go_wp2
 go_ret2
 have hne':(Value.slice ao n' cap).ownBlock≠some b:=by
  intro e
  rcases hown'.2 with ⟨hv,_⟩ | ⟨g,cap',cur,hv,hg1,hg2,_⟩
  ·rw [hv] at e; simp [Value.ownBlock] at e
  ·rw [hv] at e
   simp [Value.ownBlock] at e
   subst e
   rw [hb2] at hg2
   simp at hg2
 refine ⟨rfl,⟨_,blk_put hb2 1 _ rfl,?_,hne'⟩,(hb1.trans (Shw.Fr.of_grown hgrow (fun k hk=>(hown.lt k hk).1) (by have:=hb1.size; omega) hcl)).trans (Shw.Fr.set B b 1 _ w2)⟩
 have hk:=hown'.kept (w':=w2.setCell ⟨b,1,none⟩ (.slice ao n' cap)) (row:=some b) ⟨rfl,rfl,rfl,by simp [World.setCell],fun k _ hk=>Below.heap_setCell _ _ _ _ (fun e=>hk (by simp [e]))⟩ (Or.inr hne')
 simpa [Lib.strCells_length] using hk
end
def Shw.lays171_ren:Go.Shelf.Ren:=⟨fun | 171=>23 | 243=>50 | 246=>78 | 283=>99 | 284=>100 | 285=>101 | 286=>102 | 129=>113 | 317=>112 | 318=>114 | 319=>115 | 320=>116 | 337=>123 | 338=>76 | n=>n,fun | 3=>3 | 9=>9 | 2=>2 | 4=>4 | 171=>145 | 0=>0 | 53=>22 | 37=>46 | 5=>5 | 173=>147 | 212=>168 | 51=>169 | 20=>20 | 213=>170 | 46=>82 | 232=>180 | 233=>143 | n=>n,fun | 17=>2 | 18=>6 | 19=>1 | n=>n⟩
theorem Shw.lays171:Go.Proofs.Lays.n171 Tryz.prog Shw.lays171_ren:={
 mixed:=by kernel_rfl
 f129:=Tryz.func113.trans (congrArg some (by kernel_rfl))
 f171:=Tryz.func23.trans (congrArg some (by kernel_rfl))
 f243:=Tryz.func50.trans (congrArg some (by kernel_rfl))
 f246:=Tryz.func78.trans (congrArg some (by kernel_rfl))
 f283:=Tryz.func99.trans (congrArg some (by kernel_rfl))
 f284:=Tryz.func100.trans (congrArg some (by kernel_rfl))
 f285:=Tryz.func101.trans (congrArg some (by kernel_rfl))
 f286:=Tryz.func102.trans (congrArg some (by kernel_rfl))
 f317:=Tryz.func112.trans (congrArg some (by kernel_rfl))
 f318:=Tryz.func114.trans (congrArg some (by kernel_rfl))
 f319:=Tryz.func115.trans (congrArg some (by kernel_rfl))
 f320:=Tryz.func116.trans (congrArg some (by kernel_rfl))
 f337:=Tryz.func123.trans (congrArg some (by kernel_rfl))
 f338:=Tryz.func76.trans (congrArg some (by kernel_rfl))
 t0:=Tryz.underlying0
 a0:=Tryz.isAgg0
 z0:=Tryz.sizeOf0
 v0:=Tryz.zeroValue0
 t2:=Tryz.underlying2
 a2:=Tryz.isAgg2
 z2:=Tryz.sizeOf2
 v2:=Tryz.zeroValue2
 t3:=Tryz.underlying3
 a3:=Tryz.isAgg3
 z3:=Tryz.sizeOf3
 v3:=Tryz.zeroValue3
 t4:=Tryz.underlying4
 a4:=Tryz.isAgg4
 z4:=Tryz.sizeOf4
 v4:=Tryz.zeroValue4
 t5:=Tryz.underlying5
 a5:=Tryz.isAgg5
 z5:=Tryz.sizeOf5
 v5:=Tryz.zeroValue5
 t9:=Tryz.underlying9
 a9:=Tryz.isAgg9
 z9:=Tryz.sizeOf9
 v9:=Tryz.zeroValue9
 t20:=Tryz.underlying20
 a20:=Tryz.isAgg20
 z20:=Tryz.sizeOf20
 v20:=Tryz.zeroValue20
 t37:=Tryz.underlying46
 a37:=Tryz.isAgg46
 z37:=Tryz.sizeOf46
 v37:=Tryz.zeroValue46
 t46:=Tryz.underlying82
 a46:=Tryz.isAgg82
 z46:=Tryz.sizeOf82
 v46:=Tryz.zeroValue82
 t51:=Tryz.underlying169
 a51:=Tryz.isAgg169
 z51:=Tryz.sizeOf169
 v51:=Tryz.zeroValue169
 t53:=Tryz.underlying22
 a53:=Tryz.isAgg22
 z53:=Tryz.sizeOf22
 v53:=Tryz.zeroValue22
 t171:=Tryz.underlying145
 a171:=Tryz.isAgg145
 z171:=Tryz.sizeOf145
 v171:=Tryz.zeroValue145
 t173:=Tryz.underlying147
 a173:=Tryz.isAgg147
 z173:=Tryz.sizeOf147
 v173:=Tryz.zeroValue147
 t212:=Tryz.underlying168
 a212:=Tryz.isAgg168
 z212:=Tryz.sizeOf168
 v212:=Tryz.zeroValue168
 t213:=Tryz.underlying170
 a213:=Tryz.isAgg170
 z213:=Tryz.sizeOf170
 t232:=Tryz.underlying180
 a232:=Tryz.isAgg180
 z232:=Tryz.sizeOf180
 v232:=Tryz.zeroValue180
 t233:=Tryz.underlying143
 a233:=Tryz.isAgg143
 z233:=Tryz.sizeOf143
 v233:=Tryz.zeroValue143
 g17:=by kernel_rfl
 g18:=by kernel_rfl
 g19:=by kernel_rfl }
open Go.RowKit Go.Sort Go.Lib in
/-- THE ROAD WITHOUT THE TABLE: 0 <= i < 100: NO PREMISE ON THE WORLD, AND THE WORLD IS AS IT WAS: a row that keeps its argument in that range need list no table ('laid = []'). (LAID: no walk: one application.) -/
theorem Shw.strconv_Itoa_small (i:Nat)(hi:i < 100)(w:World) :
  Calls Tryz.prog 23 #[.int .i64 i] w fun e w'=>e=.returned (.string ⟨(Lib.decDigits i).toArray⟩)∧w'=w:=Any.strconv_Itoa_small Shw.lays171 i hi w
/-! This session's own : a text's String, piece, and numbers' digits. -/
section
open Go.Shelf
theorem Shw.oth_freeze (w:World)(g n:Nat){cs:Array Value}{t:TypeId}{fr:Nat × Nat}(hg:w.heap[g]?=some (.cells cs t fr)):KeepsOthers w (w.freeze ⟨g,0,none⟩ n):=by
 unfold World.freeze
 split
 ·exact KeepsOthers.refl w
 ·refine KeepsOthers.of_grownBy (row:=some g) ⟨rfl,rfl,rfl,by simp,fun k hk hne=>?_⟩ (fun j o e ho=>?_)
  ·simp only [Array.getElem?_modify]
   rw [if_neg (fun e=>hne (by rw [e]))]
  ·cases e
   rw [hg] at ho
   cases ho
   rfl
set_option maxHeartbeats 4000000 in
set_option maxRecDepth 100000 in
theorem Shw.string_calls (B b:Nat)(bt:ByteArray)(l:List UInt8)(w:World)(h:Shw.Is B b bt (Lib.byteCells l) w)(h0:l≠[]) :
  Calls Tryz.prog 24 #[.pointer (some ⟨b,0,none⟩)] w fun e w'=>e=.returned (.string ⟨l.toArray⟩)∧Below B w w'∧KeepsOthers w w':=by
 obtain ⟨p,v,hbk,hown,hne⟩ :=h.at_
 have hl0:l.length≠0:=by simpa using h0
 rw [Lib.byteCells_length] at hown
 obtain ⟨g,cap,cur,rfl,hbg,hg,hnc,hcm,hcs,htake⟩:∃ g cap cur,v=.slice (some ⟨g,0,none⟩) l.length cap∧B≤g∧w.heap[g]?=some (.cells cur 5 (0,0))∧l.length≤cap∧cap≤maxLen∧cur.size=cap*1∧cur.toList.take (l.length*1)=Lib.byteCells l:=by
  rcases hown.2 with ⟨_,hz⟩ | ⟨g,cap,cur,hv,r⟩
  ·exact absurd hz hl0
  ·exact ⟨g,cap,cur,hv,r⟩
 have c1:w.drew.cell? ⟨b,1,none⟩=some (.slice (some ⟨g,0,none⟩) l.length cap):=(blk_cell (show w.drew.heap[b]?=_ from hbk) 1).trans rfl
 have hSD:(Builtin.unsafeSliceData_ #[46] 96 #[.slice (some ⟨g,0,none⟩) l.length cap]).run Tryz.prog w.drew=.ok (.pointer (some ⟨g,0,none⟩)) w.drew:=
  Lib.run_unsafeSliceData_row _ _ _ _ _ _ (by omega)
 have hUS:(Builtin.unsafeString_ #[96,3] 9 #[.pointer (some ⟨g,0,none⟩),.int .i64 l.length]).run Tryz.prog w.drew=.ok (.string ⟨l.toArray⟩) (w.drew.freeze ⟨g,0,none⟩ l.length):=by
  refine Lib.run_unsafeString_row w.drew 96 3 9 5 Tryz.underlying96 (by kernel_rfl) g cur.size (by have hg':w.drew.heap[g]?=some (.cells cur 5 (0,0)):=hg; simp [World.shape?,hg']) l h0 (by omega) (by unfold maxLen at hcm; omega) ?_
  intro j x hx
  have:=hown.cells (g:=g) rfl j (.int .u8 x.toNat) (by simp [Lib.byteCells,hx])
  exact this
 have hoth:KeepsOthers w (w.drew.freeze ⟨g,0,none⟩ l.length):=(KeepsOthers.drew w).trans (Shw.oth_freeze w.drew g l.length (show w.drew.heap[g]?=_ from hg))
 replace hoth:=Lib.hid hoth
 clear hown h hbk htake
 go_enter Tryz.func24,Tryz.ntmps24
 go_wp2
 have mixed:Tryz.prog.follows .mixedOrders=true:=by kernel_rfl
 go_region_o
 all_goals (go_wp2; go_ret; exact ⟨rfl,Lib.below_freeze (Below.drew (Below.refl B w)) (p:=⟨g,0,none⟩) hbg _,hoth.out⟩)
/-- What stands there behind one piece more. -/
def Shw.then_ (bt acc s:ByteArray):ByteArray:=if acc.size=0 then s else acc ++ bt ++ s
theorem Shw.strCells_app (a b:ByteArray):Lib.strCells (a ++ b)=Lib.strCells a ++ Lib.strCells b:=by
 simp [Lib.strCells,Lib.byteCells]
theorem Shw.strCells_len (s:ByteArray):(Lib.strCells s).length=s.size:=Lib.strCells_length s
set_option maxHeartbeats 4000000 in
set_option maxRecDepth 100000 in
theorem Shw.piece_calls (B b:Nat)(bt acc s:ByteArray)(w:World)(h:Shw.Is B b bt (Lib.strCells acc) w)(hlen:acc.size+bt.size+s.size≤1000000)(hBw:B≤w.heap.size) :
  Calls Tryz.prog 22 #[.pointer (some ⟨b,0,none⟩),.string s] w fun e w'=>e=.returned (.tuple #[])∧Shw.Is B b bt (Lib.strCells (Shw.then_ bt acc s)) w'∧Shw.Fr B b w w':=by
 have hL:=Aside0.mk (Shw.len_calls B b bt (Lib.strCells acc) w h)
 rw [Shw.strCells_len] at hL
 have hW1:=Aside0.mk (fun W h2 h3=>Shw.write_calls B b bt (Lib.strCells acc) s W h2 (by rw [Shw.strCells_len]; omega) h3)
 have hW2:=Aside0.mk (fun W h2 h3=>Shw.write_calls B b bt (Lib.strCells acc) bt W h2 (by rw [Shw.strCells_len]; omega) h3)
 have hW3:=Aside0.mk (fun W h2 h3=>Shw.write_calls B b bt (Lib.strCells acc ++ Lib.strCells bt) s W h2 (by rw [List.length_append,Shw.strCells_len,Shw.strCells_len]; omega) h3)
 obtain ⟨p,v,hbk,hown,hne⟩ :=h.at_
 have c2:w.cell? ⟨b,2,none⟩=some (.string bt):=(blk_cell hbk 2).trans rfl
 have c2d:w.drew.cell? ⟨b,2,none⟩=some (.string bt):=c2
 have hI:=Aside0.mk h
 have hId:=Aside0.mk (show Shw.Is B b bt (Lib.strCells acc) w.drew from h)
 have hfd:=Aside0.mk (show Shw.Fr B b w w.drew from Shw.Fr.of_below (below_drew1 (Below.refl w.heap.size w)) hBw)
 clear h hbk hown hne
 go_enter Tryz.func22,Tryz.ntmps22
 by_cases c:acc.size=0
 ·have e1:decide ((0:Int) < (acc.size:Int))=false:=decide_eq_false (by omega)
  have e2:decide (0 < acc.size)=false:=decide_eq_false (by omega)
  have hb2:Lib.strCells acc ++ Lib.strCells s=Lib.strCells (Shw.then_ bt acc s):=by
   have ea:acc=⟨#[]⟩ :=by
    have:=acc.data.size_eq_zero_iff.1 c
    cases acc; simp_all
   subst ea
   unfold Shw.then_
   rw [if_pos (show (⟨#[]⟩:ByteArray).size=0 from rfl)]
   rfl
  replace hb2:=Lib.hid hb2
  replace c:=Lib.hid c
  go_wp2_with fail
  refine hL.out.mono ?_
  rintro e w1 ⟨rfl,rfl⟩
  go_wp2_with fail
  refine (hW1.out _ hI.out hBw).mono ?_
  rintro e w2 ⟨rfl,h2,hb3⟩
  go_wp2_with fail
  go_end0
  exact ⟨rfl,.inr (by rw [← hb2.out]; exact h2),hb3⟩
 ·have e1:decide ((0:Int) < (acc.size:Int))=true:=decide_eq_true (by omega)
  have e2:decide (0 < acc.size)=true:=decide_eq_true (by omega)
  have hb2:Lib.strCells acc ++ Lib.strCells bt ++ Lib.strCells s=Lib.strCells (Shw.then_ bt acc s):=by
   unfold Shw.then_
   rw [if_neg c,Shw.strCells_app,Shw.strCells_app]
  replace hb2:=Lib.hid hb2
  replace c:=Lib.hid c
  go_wp2_with fail
  refine hL.out.mono ?_
  rintro e w1 ⟨rfl,rfl⟩
  go_wp2_with fail
  go_region_with (refine (hW2.out _ hId.out hBw).mono ?_; rintro e w2 ⟨rfl,h2,hb3⟩)
  all_goals
   go_wp2_with fail
   refine (hW3.out _ (.inr h2) (by have:=hfd.out.size; have:=hb3.size; omega)).mono ?_
   rintro e w3 ⟨rfl,h3,hb4⟩
   go_wp2_with fail
   go_end0
   exact ⟨rfl,.inr (by rw [← hb2.out]; exact h3),(hfd.out.trans hb3).trans hb4⟩
theorem Shw.itoa_calls (i:Nat)(hi:i < 64)(w:World):Calls Tryz.prog 23 #[.int .i64 i] w fun e w'=>e=.returned (.string (Shw.dg i))∧w'=w:=by
 refine (Shw.strconv_Itoa_small i (by omega) w).mono ?_
 rintro e w' ⟨rfl,rfl⟩
 exact ⟨by rw [Shw.dec_dg i hi],rfl⟩
end
/-! This session's own: show.runs' closure, as an iterator. -/
section
open Go.Shelf
attribute [local go_sem] Oper.semAt_some
abbrev Shw.RF:=Fin 64 × Fin 64
def Shw.embR (x:Nat × Nat):Shw.RF:=(Fin.ofNat 64 x.1,Fin.ofNat 64 x.2)
def Shw.encR (x:Shw.RF):Array Value:=#[.int .i64 (x.1.val:Int),.int .i64 (x.2.val:Int)]
theorem Shw.encR_emb {a e:Nat}(h1:a < 64)(h2:e < 64):Shw.encR (Shw.embR (a,e))=#[.int .i64 (a:Int),.int .i64 (e:Int)]:=by
 show #[Value.int .i64 ((a % 64:Nat):Int),.int .i64 ((e % 64:Nat):Int)]=_
 rw [Nat.mod_eq_of_lt h1,Nat.mod_eq_of_lt h2]
def Shw.bits (b:Int):Nat→Bool:=fun i=>b.toNat.testBit i
def Shw.FB (W:World)(g:Nat)(b:Int)(s:Bool):Prop:=W.heap[g]?=some (.cells #[.int .u64 b,.bool s] 24 (0,0))
def Shw.KpR (g:Nat)(W W':World):Prop:=W'.heap[g]?=W.heap[g]?∧(Tab W→Tab W')
theorem Shw.abide {β:Type}{J:β→World→Prop}{B:Nat}(hJ:AbidesFrom B J){s:β}{W W':World}(h:J s W)(hb:Below W.heap.size W W'):J s W':=
 hJ s W W' none h ⟨hb.os,hb.tape,hb.output,hb.size,fun k hk _=>hb.block k hk⟩ (fun r e=>by cases e)
theorem Shw.first_nx (b:Int)(s:Bool)(hb:Shw.InU b)(n:Nat):field_First.f b s (n:Int)=some ((Shw.nx (Shw.bits b) n).1,(Shw.nx (Shw.bits b) n).2):=by
 rw [Shw.first_f b s hb n]
 unfold Shw.nx Shw.bits
 cases Shw.fst (fun i=>b.toNat.testBit i) (64 - n) n <;> rfl
theorem Shw.has_nat (b:Int)(s:Bool)(hb:Shw.InU b)(n:Nat)(hn:n < 64):field_Has.f b s (n:Int)=some (Shw.bits b n):=by
 rw [Shw.has_f b s n hb,decide_eq_true (by omega),decide_eq_true (by omega)]
 rfl
theorem Shw.has_64 (b:Int)(s:Bool)(hb:Shw.InU b):field_Has.f b s (64:Int)=some false:=by
 rw [Shw.has_f b s 64 hb]; rfl
theorem Shw.stop_on {p:Nat→Bool}{x:Nat}(h:x < 64)(hp:p x=true):Shw.stop p (64 - x) x=Shw.stop p (64 - (x+1)) (x+1):=by
 rw [show 64 - x=(64 - (x+1))+1 by omega,Shw.stop,if_pos hp]
theorem Shw.stop_off {p:Nat→Bool}{x:Nat}(h:x < 64)(hp:p x=false):Shw.stop p (64 - x) x=x:=by
 rw [show 64 - x=(64 - (x+1))+1 by omega,Shw.stop,hp,if_neg (by decide)]
theorem Shw.fst_lt {p:Nat→Bool}:∀ {f v r:Nat},Shw.fst p f v=some r→v≤r∧r < v+f∧p r=true
 | 0,v,r,h=>by cases h
 | f+1,v,r,h=>by
  unfold Shw.fst at h
  by_cases c:p v=true
  ·rw [if_pos c] at h
   obtain rfl:=Option.some.inj h
   exact ⟨by omega,by omega,c⟩
  ·rw [if_neg c] at h
   have:=Shw.fst_lt h
   exact ⟨by omega,by omega,this.2.2⟩
def Shw.meas (p3 p4:Value):Nat:=match p4 with
 | .bool true=>(65 - intOf p3).toNat
 | _=>0
theorem Shw.nx_some {p:Nat→Bool}{v a:Nat}(h:Shw.fst p (64 - v) v=some a):Shw.nx p v=((a:Int),true):=by unfold Shw.nx; rw [h]
theorem Shw.nx_none {p:Nat→Bool}{v:Nat}(h:Shw.fst p (64 - v) v=none):Shw.nx p v=(0,false):=by unfold Shw.nx; rw [h]
theorem Shw.runs_some {p:Nat→Bool}{f v a:Nat}(hf:64≤v+f)(h:Shw.fst p (64 - v) v=some a):∃ f',f=f'+1∧Shw.runs p f v=(a,Shw.stop p (64 - a) a - 1) :: Shw.runs p f' (Shw.stop p (64 - a) a):=by
 have:=Shw.fst_lt h
 obtain ⟨f',rfl⟩:∃ f',f=f'+1:=⟨f - 1,by omega⟩
 exact ⟨f',rfl,by rw [Shw.runs,h]⟩
theorem Shw.runs_none {p:Nat→Bool}{f v:Nat}(h:Shw.fst p (64 - v) v=none):Shw.runs p f v=[]:=by
 cases f with
 | zero=>rfl
 | succ f=>rw [Shw.runs,h]
theorem Shw.meas_next (p:Nat→Bool)(v a:Nat)(h:a < v):Shw.meas (.int .i64 (Shw.nx p v).1) (.bool (Shw.nx p v).2) < Shw.meas (.int .i64 (a:Int)) (.bool true)∨a > 64:=by
 unfold Shw.nx
 cases hq:Shw.fst p (64 - v) v with
 | none=>simp only [Shw.meas,intOf]; omega
 | some r=>have:=Shw.fst_lt hq; simp only [Shw.meas,intOf]; omega
theorem Shw.stop_le (p:Nat→Bool):∀ (f v:Nat),v≤Shw.stop p f v∧Shw.stop p f v≤v+f
 | 0,v=>⟨Nat.le_refl _,Nat.le_refl _⟩
 | f+1,v=>by
  unfold Shw.stop
  by_cases c:p v=true
  ·rw [if_pos c]
   have:=Shw.stop_le p f (v+1)
   omega
  ·rw [if_neg c]; omega
set_option maxHeartbeats 8000000 in
set_option maxRecDepth 100000 in
theorem Shw.runs_stops (n:Nat)(hn:1≤n)(g:Nat)(b:Int)(s:Bool)(hb:Shw.InU b)(w:World)(hT:Tab w)(hX:Shw.FB w g b s) :
  SeqStopsK Fence.wide n Tryz.prog 45 #[.pointer (some ⟨g,0,none⟩)] Shw.encR (Shw.KpR g)
   (fun xs=>xs=(Shw.runs (Shw.bits b) 64 0).map Shw.embR) (fun pre=>pre <+: (Shw.runs (Shw.bits b) 64 0).map Shw.embR) ((Shw.runs (Shw.bits b) 64 0).map Shw.embR).length w:=by
 intro l J Jx W hbw hJ hJx hY hJ0
 obtain ⟨L,hL⟩:∃ L,(Shw.runs (Shw.bits b) 64 0).map Shw.embR=L:=⟨_,rfl⟩
 rw [hL] at hY ⊢
 replace hT:=hT.keep hbw
 replace hX:Shw.FB W g b s:=blk_below hX hbw
 obtain ⟨p,hp⟩:∃ p,Shw.bits b=p:=⟨_,rfl⟩
 have hF:∀ m:Nat,field_First.f b s (m:Int)=some ((Shw.nx p m).1,(Shw.nx p m).2):=by rw [← hp]; exact Shw.first_nx b s hb
 have hF0:field_First.f b s 0=some ((Shw.nx p 0).1,(Shw.nx p 0).2):=hF 0
 have hH:∀ m:Nat,m < 64→field_Has.f b s (m:Int)=some (p m):=by rw [← hp]; exact Shw.has_nat b s hb
 have hH64:field_Has.f b s ((64:Nat):Int)=some false:=Shw.has_64 b s hb
 rw [hp] at hL
 obtain ⟨f0,hf0,hf1⟩:∃ f0:Nat,Hid (64≤0+f0)∧64=f0:=⟨64,Lib.hid (by decide),rfl⟩
 rw [hf1] at hL
 clear hp hb hbw hf1
 have c0:W.cell? ⟨g,0,none⟩=some (.int .u64 b):=(blk_cell hX 0).trans rfl
 have c1:W.cell? ⟨g,1,none⟩=some (.bool s):=(blk_cell hX 1).trans rfl
 replace hY:=Lib.hid hY
 replace hL:=Lib.hid hL
 replace hF:=Lib.hid hF
 replace hF0:=Lib.hid hF0
 replace hH:=Lib.hid hH
 replace hH64:=Lib.hid hH64
 have hK:=Aside0.mk (show Tab W∧Shw.FB W g b s from ⟨hT,hX⟩)
 clear hT hX
 refine callsIn_of_wp Tryz.func45 rfl trivial ?_ rfl
 simp only [Tryz.ntmps45,List.size_toArray,List.length_cons,List.length_nil,Nat.reduceAdd,Nat.reduceSub,Array.replicate_succ,Array.replicate_zero,List.push_toArray,List.append_toArray,List.nil_append,List.cons_append]
 gi_wp2_with fail
 refine ⟨trivial,?_⟩
 refine (callsIn_wide.2 (field_First.calls b s 0 _ _ _ hK.out.1 hF0.out)).mono ?_
 rintro e W1 ⟨rfl,hb1⟩
 replace hJ0:J [] W1:=Shw.abide hJ hJ0 hb1
 replace hK:=Aside0.mk (show Tab W1∧Shw.FB W1 g b s from ⟨hK.out.1.keep hb1,blk_below hK.out.2 hb1⟩)
 clear hb1 c0 c1 hF0
 gi_wp2_with fail
 gi_loopw [3,4] (fun p3 p4 wr=>∃ (pre:List Shw.RF) (f v:Nat),p3=.int .i64 (Shw.nx p v).1∧p4=.bool (Shw.nx p v).2∧Hid (L=pre ++ (Shw.runs p f v).map Shw.embR)∧Hid (64≤v+f)∧J pre wr∧Aside0 (Tab wr∧Shw.FB wr g b s)) (fun p3 p4 _=>Shw.meas p3 p4)
 case atStart=>exact ⟨[],f0,0,rfl,rfl,Lib.hid (by rw [List.nil_append]; exact hL.out.symm),hf0,hJ0,hK⟩
 case round=>
  clear hK hJ0
  obtain ⟨pre,f,v,rfl,rfl,hx,hf,hJs,hK⟩ :=hrel
  cases hq:Shw.fst p (64 - v) v with
  | none=>
   have hLp:L=pre:=by rw [hx.out,Shw.runs_none hq,List.map_nil,List.append_nil]
   replace hLp:=Lib.hid hLp
   have hn0:=Shw.nx_none hq
   rw [hn0]
   clear hx hq hn0
   gi_wp2_with fail
   go_end0
   exact ⟨⟨_,rfl⟩,.inl ⟨_,hLp.out.symm,hJs⟩⟩
  | some a=>
   have hn1:=Shw.nx_some hq
   obtain ⟨f',hf',hr⟩ :=Shw.runs_some hf.out hq
   have hlt:=Shw.fst_lt hq
   obtain ⟨st,hst⟩:∃ st,Shw.stop p (64 - a) a=st:=⟨_,rfl⟩
   have hst1:a+1≤st:=by rw [← hst]; exact Shw.stop_gt (by omega) hlt.2.2
   have hst2:st≤64:=by have:=(Shw.stop_le p (64 - a) a).2; omega
   have ha:a < 64:=by omega
   have hx2:Hid (L=pre ++ Shw.embR (a,st - 1) :: (Shw.runs p f' st).map Shw.embR):=Lib.hid (by rw [hx.out,hr,hst,List.map_cons])
   have hms:=Shw.meas_next p st a (by omega)
   rw [hn1]
   have hfin:Hid (64≤st+f'∧(Shw.meas (.int .i64 (Shw.nx p st).1) (.bool (Shw.nx p st).2) < Shw.meas (.int .i64 (a:Int)) (.bool true))):=Lib.hid ⟨by have:=hf.out; omega,by rcases hms with q | q; exact q; omega⟩
   replace hst:=Lib.hid hst
   replace hst1:=Lib.hid hst1
   replace hst2:=Lib.hid hst2
   replace ha:=Lib.hid ha
   clear hx hf hn1 hf' hr hlt hq hms
   gi_wp2_with fail
   gi_loopw [3] (fun q wr=>∃ x:Nat,q=.int .i64 (x:Int)∧Hid (a≤x∧x≤64)∧Hid (Shw.stop p (64 - x) x=st)∧J pre wr∧Aside0 (Tab wr∧Shw.FB wr g b s)) (fun q _=>(65 - intOf q).toNat)
   case atStart=>exact ⟨a,rfl,Lib.hid ⟨Nat.le_refl _,Nat.le_of_lt ha.out⟩,hst,hJs,hK⟩
   case round=>
    clear hK hJs hst ha
    obtain ⟨x,rfl,hax,hsx,hJs,hK⟩ :=hrel
    have c0:wr.cell? ⟨g,0,none⟩=some (.int .u64 b):=(blk_cell hK.out.2 0).trans rfl
    have c1:wr.cell? ⟨g,1,none⟩=some (.bool s):=(blk_cell hK.out.2 1).trans rfl
    by_cases hgo:x < 64∧p x=true
    ·have hHx:=Lib.hid ((hH.out x hgo.1).trans (congrArg some hgo.2))
     have hsx2:=Lib.hid ((Shw.stop_on hgo.1 hgo.2).symm.trans hsx.out)
     have hax2:Hid (a≤x+1∧x+1≤64):=Lib.hid ⟨by have:=hax.out; omega,hgo.1⟩
     have hzm:Hid ((65 - ((x+1:Nat):Int)).toNat < (65 - (x:Int)).toNat):=Lib.hid (by have:=hgo.1; omega)
     have hxb:(x:Int)≤63:=by have:=hgo.1; omega
     replace hgo:=Lib.hid hgo
     clear hsx hax
     gi_wp2_with fail
     refine ⟨trivial,?_⟩
     refine (callsIn_wide.2 (field_Has.calls b s x _ _ hHx.out)).mono ?_
     rintro e W2 ⟨rfl,hb2⟩
     have hJ2:J pre W2:=Shw.abide hJ hJs hb2
     have hK2:=Aside0.mk (show Tab W2∧Shw.FB W2 g b s from ⟨hK.out.1.keep hb2,blk_below hK.out.2 hb2⟩)
     clear hb2 c0 c1 hJs hK hHx
     gi_wp2_with fail
     go_roundw
     case rel=>exact ⟨x+1,rfl,hax2,hsx2,hJ2,hK2⟩
     case measure=>
      clear hn hK2 hJ2
      exact hzm.out
    ·have hHx:Hid (field_Has.f b s (x:Int)=some false):=Lib.hid (by
      by_cases h64:x=64
      ·rw [h64]; exact hH64.out
      ·have hlt:x < 64:=by have:=hax.out; omega
       rw [hH.out x hlt]
       have:p x=false:=by
        cases hpx:p x with
        | true=>exact absurd ⟨hlt,hpx⟩ hgo
        | false=>rfl
       rw [this])
     obtain rfl:x=st:=by
      rw [← hsx.out]
      by_cases h64:x=64
      ·rw [h64]; rfl
      ·have hlt:x < 64:=by have:=hax.out; omega
       rw [Shw.stop_off hlt (by
        cases hpx:p x with
        | true=>exact absurd ⟨hlt,hpx⟩ hgo
        | false=>rfl)]
     clear hgo hsx hax
     gi_wp2_with fail
     refine ⟨trivial,?_⟩
     refine (callsIn_wide.2 (field_Has.calls b s x _ _ hHx.out)).mono ?_
     rintro e W2 ⟨rfl,hb2⟩
     have hJ2:J pre W2:=Shw.abide hJ hJs hb2
     have hK2:=Aside0.mk (show Tab W2∧Shw.FB W2 g b s from ⟨hK.out.1.keep hb2,blk_below hK.out.2 hb2⟩)
     clear hb2 c0 c1 hJs hK hHx
     have hx1:=hst1.out
     have hx64:=hst2.out
     obtain ⟨e1,he1⟩:∃ e1:Nat,x=e1+1:=⟨x - 1,by omega⟩
     obtain ⟨fn,tmps,assign,body,hyl,hR⟩ :=hY.out pre (Shw.embR (a,x - 1)) W2 hJ2 (by rw [hx2.out]; simp)
     rw [Shw.encR_emb (by omega) (by omega)] at hyl
     have hs1:((x - 1:Nat):Int)=(x:Int) - 1:=by omega
     rw [hs1] at hyl
     clear hs1
     replace hx1:=Lib.hid hx1
     clear he1
     gi_wp2_with fail
     refine hR.mono ?_
     rintro e W4 (⟨rfl,hJ3,hk3⟩ | ⟨rfl,hJx3⟩)
     ·have hK3:=Aside0.mk (show Tab W4∧Shw.FB W4 g b s from ⟨hk3.2 hK2.out.1,hk3.1.trans hK2.out.2⟩)
      clear hK2 hk3 hyl hR hJ2
      have c0:W4.cell? ⟨g,0,none⟩=some (.int .u64 b):=(blk_cell hK3.out.2 0).trans rfl
      have c1:W4.cell? ⟨g,1,none⟩=some (.bool s):=(blk_cell hK3.out.2 1).trans rfl
      have hFx:=Lib.hid (hF.out x)
      gi_wp2_with fail
      refine ⟨trivial,?_⟩
      refine (callsIn_wide.2 (field_First.calls b s x _ _ _ hK3.out.1 hFx.out)).mono ?_
      rintro e W5 ⟨rfl,hb5⟩
      have hJ5:=Shw.abide hJ hJ3 hb5
      have hK5:=Aside0.mk (show Tab W5∧Shw.FB W5 g b s from ⟨hK3.out.1.keep hb5,blk_below hK3.out.2 hb5⟩)
      clear hb5 c0 c1 hJ3 hK3 hFx
      gi_wp2_with fail
      go_roundw
      case rel=>exact ⟨pre ++ [Shw.embR (a,x - 1)],f',x,rfl,rfl,Lib.hid (by rw [hx2.out]; simp),Lib.hid hfin.out.1,hJ5,hK5⟩
      case measure=>exact hfin.out.2
     ·gi_wp2_with fail
      refine bodyPost_ret (results_none rfl _ _ _) rfl ?_
      exact ⟨⟨_,rfl⟩,.inr ⟨pre ++ [Shw.embR (a,x - 1)],⟨(Shw.runs p f' x).map Shw.embR,by rw [hx2.out]; simp⟩,hJx3⟩⟩
end
/-! This session's own: a frame that leaves with marks of ranges over functions. -/
theorem Shw.genIn {F:Fence}{n:Nat}{P:Program}{f:FuncId}{args:Array Value}{W:World}{Q:Ending→World→Prop}(F':World→Prop)(h:F' W)(k:∀ W1,F' W1→CallsIn F n P f args W1 Q):CallsIn F n P f args W Q:=k W h
/-- The marks of the ranges over functions that a frame has gone through: each block is there, the newer the higher. -/
def Shw.Marks (B:Nat)(w:World):Nat→List Deferred→Prop
 | _,[]=>True
 | U,d :: ds=>∃ D,d={ target:=.collected D,args:=#[] }∧B≤D∧D < U∧w.heap[D]?=some (.deferred (some []))∧Shw.Marks B w D ds
theorem Shw.Marks.step {B:Nat}{w w':World}:∀ {ds:List Deferred} {U U':Nat},Shw.Marks B w U ds→U≤U'→(∀ k,B≤k→k < U→w.heap[k]?=some (.deferred (some []))→w'.heap[k]?=some (.deferred (some [])))→Shw.Marks B w' U' ds
 | [],_,_,_,_,_=>trivial
 | d :: ds,U,U',⟨D,hd,hB,hU,hh,hr⟩,hle,hk=>⟨D,hd,hB,by omega,hk D hB hU hh,Shw.Marks.step hr (Nat.le_refl D) (fun k h1 h2 h3=>hk k h1 (by omega) h3)⟩
theorem Shw.leave {P:Program}{fn:Func}{tmps:Array Value}{R:Ending→World→Prop}{F:Fence}{n:Nat}(B:Nat):∀ (ds:List Deferred) (U:Nat) (w:World),Shw.Marks B w U ds→
  (∀ w',Below B w w'→(∀ (k:Nat) (cs:Array Value) (t:TypeId) (fr:Nat × Nat),w.heap[k]?=some (.cells cs t fr)→w'.heap[k]?=some (.cells cs t fr))→∃ v,(results fn tmps).run P w'=.ok v w'∧R (.returned v) w')→LeavesInM F n P fn tmps R ds .returning w
 | [],_,w,_,h=>h w (Below.refl _ _) (fun _ _ _ _ h=>h)
 | d :: ds,U,w,⟨D,hd,hB,hU,hh,hr⟩,h=>by
  subst hd
  refine ⟨by simp,.inl ⟨D,_,rfl,run_takeDeferred hh,?_⟩⟩
  have hg:=grownBy_putObj' w D (.deferred none)
  refine Shw.leave B ds D _ (Shw.Marks.step hr (Nat.le_refl _) (fun k _ h2 h3=>(hg.block k (by have:=(Array.getElem?_eq_some_iff.1 h3).1; omega) (fun e=>by injection e; omega)).trans h3)) ?_
  intro w' hb hc
  refine h w' ?_ ?_
  ·exact Below.trans ⟨hg.os,hg.tape,hg.output,hg.size,fun k hk=>World.putObj_heap_other (by omega)⟩ hb
  ·intro k cs t fr hk
   refine hc k cs t fr ?_
   have hne:k≠D:=by rintro rfl; rw [hh] at hk; cases hk
   exact (hg.block k (Array.getElem?_eq_some_iff.1 hk).1 (fun e=>hne (by injection e))).trans hk
/-! This session's own: show.Field. -/
def Shw.firstRange:Code→Option Code
 | .loop c=>Shw.firstRange c
 | .seq a b=>match Shw.firstRange a with
  | some c=>some c
  | none=>Shw.firstRange b
 | .block _ c=>Shw.firstRange c
 | .scope c=>Shw.firstRange c
 | .cond _ a b=>match Shw.firstRange a with
  | some c=>some c
  | none=>Shw.firstRange b
 | .rangeFunc a b c d=>some (.rangeFunc a b c d)
 | _=>none
noncomputable def Shw.fieldRange:Code:=((Tryz.f10.body.bind Shw.firstRange).getD .skip)
def Shw.foldF (l:List Shw.RF)(acc:ByteArray):ByteArray:=l.foldl (fun acc r=>Shw.item acc r.1.val r.2.val) acc
theorem Shw.dg_le (n:Nat):(Shw.dg n).size≤2:=by unfold Shw.dg; split <;> simp [ByteArray.size]
theorem Shw.add_le (acc s:ByteArray):(Shw.add acc s).size≤acc.size+s.size+1:=by
 unfold Shw.add
 split
 ·omega
 ·simp only [ByteArray.size_append]; have:(⟨#[44]⟩:ByteArray).size=1:=rfl; omega
theorem Shw.item_le (acc:ByteArray)(a e:Nat):(Shw.item acc a e).size≤acc.size+6:=by
 unfold Shw.item
 have h1:=Shw.dg_le a
 have h2:=Shw.dg_le e
 split
 ·have:=Shw.add_le acc (Shw.dg a); omega
 split
 ·have:=Shw.add_le acc (Shw.dg a); have:=Shw.add_le (Shw.add acc (Shw.dg a)) (Shw.dg e); omega
 ·have h3:=Shw.add_le acc (Shw.dg a ++ (⟨#[45]⟩:ByteArray) ++ Shw.dg e)
  simp only [ByteArray.size_append] at h3
  have:(⟨#[45]⟩:ByteArray).size=1:=rfl
  omega
theorem Shw.dg_ne (n:Nat):(Shw.dg n).size≠0:=by unfold Shw.dg; split <;> simp [ByteArray.size]
theorem Shw.add_ne (acc s:ByteArray)(h:s.size≠0):(Shw.add acc s).size≠0:=by
 unfold Shw.add
 split
 ·exact h
 ·simp only [ByteArray.size_append]; omega
theorem Shw.item_ne (acc:ByteArray)(a e:Nat):(Shw.item acc a e).size≠0:=by
 unfold Shw.item
 split
 ·exact Shw.add_ne _ _ (Shw.dg_ne a)
 split
 ·exact Shw.add_ne _ _ (Shw.dg_ne e)
 ·exact Shw.add_ne _ _ (by simp only [ByteArray.size_append]; have:=Shw.dg_ne a; omega)
theorem Shw.fold_ne:∀ (l:List (Nat × Nat))(acc:ByteArray),acc.size≠0→(l.foldl (fun acc r=>Shw.item acc r.1 r.2) acc).size≠0
 | [],_,h=>h
 | r :: l,acc,_=>Shw.fold_ne l _ (Shw.item_ne acc r.1 r.2)
theorem Shw.foldF_le:∀ (l:List Shw.RF)(acc:ByteArray),(Shw.foldF l acc).size≤acc.size+6*l.length
 | [],acc=>by show acc.size≤_; omega
 | r :: l,acc=>by
  have h1:=Shw.foldF_le l (Shw.item acc r.1.val r.2.val)
  have h2:=Shw.item_le acc r.1.val r.2.val
  show (Shw.foldF l (Shw.item acc r.1.val r.2.val)).size≤_
  rw [List.length_cons]
  omega
theorem Shw.foldF_app (l:List Shw.RF)(x:Shw.RF)(acc:ByteArray):Shw.foldF (l ++ [x]) acc=Shw.item (Shw.foldF l acc) x.1.val x.2.val:=by
 unfold Shw.foldF
 rw [List.foldl_append]
 rfl
theorem Shw.runs_lt (p:Nat→Bool):∀ (f v:Nat) (r:Nat × Nat),r ∈ Shw.runs p f v→r.1 < 64∧r.2 < 64
 | 0,v,r,h=>by cases h
 | f+1,v,r,h=>by
  rw [Shw.runs] at h
  cases hq:Shw.fst p (64 - v) v with
  | none=>rw [hq] at h; cases h
  | some a=>
   rw [hq] at h
   have h1:=Shw.fst_lt hq
   have h2:=Shw.stop_le p (64 - a) a
   rcases List.mem_cons.1 h with rfl | h
   ·exact ⟨by show a < 64; omega,by show Shw.stop p (64 - a) a - 1 < 64; omega⟩
   ·exact Shw.runs_lt p f _ r h
theorem Shw.runs_length (p:Nat→Bool):∀ (f v:Nat),(Shw.runs p f v).length≤f
 | 0,v=>Nat.le_refl _
 | f+1,v=>by
  rw [Shw.runs]
  cases hq:Shw.fst p (64 - v) v with
  | none=>exact Nat.zero_le _
  | some a=>have:=Shw.runs_length p f (Shw.stop p (64 - a) a); rw [List.length_cons]; omega
theorem Shw.foldF_emb:∀ (l:List (Nat × Nat))(acc:ByteArray),(∀ r ∈ l,r.1 < 64∧r.2 < 64)→Shw.foldF (l.map Shw.embR) acc=Shw.fold l acc
 | [],_,_=>rfl
 | r :: l,acc,h=>by
  have hr:=h r (List.mem_cons_self ..)
  have e:Shw.item acc (Shw.embR r).1.val (Shw.embR r).2.val=Shw.item acc r.1 r.2:=by
   show Shw.item acc (r.1 % 64) (r.2 % 64)=_
   rw [Nat.mod_eq_of_lt hr.1,Nat.mod_eq_of_lt hr.2]
  show Shw.foldF (l.map Shw.embR) (Shw.item acc (Shw.embR r).1.val (Shw.embR r).2.val)=_
  rw [e,Shw.foldF_emb l _ (fun x hx=>h x (List.mem_cons_of_mem _ hx))]
  rfl
theorem Shw.foldF_text (p:Nat→Bool):Shw.foldF ((Shw.runs p 64 0).map Shw.embR) ⟨#[]⟩=Shw.text p:=Shw.foldF_emb _ _ (Shw.runs_lt p 64 0)
theorem Shw.Is.kept {B b:Nat}{bt:ByteArray}{bs:List Value}{w w':World}{row:Option Nat}(h:Shw.Is B b bt bs w)(hg:w.grownBy w' row)(hr:∀ r,row=some r→r≠b∧∃ o:Obj,w.heap[r]?=some o∧o.isCells=false):Shw.Is B b bt bs w':=by
 have key:∀ v,w.ownsRow B 5 1 v bs.length bs→w'.ownsRow B 5 1 v bs.length bs:=by
  intro v ho
  cases row with
  | none=>
   refine ho.kept (row:=none) hg ?_
   cases hv:v.ownBlock with
   | none=>exact Or.inl rfl
   | some k=>exact Or.inr (by simp)
  | some r=>
   obtain ⟨_,o,h1,h2⟩ :=hr r rfl
   refine ho.kept (row:=some r) hg (Or.inr ?_)
   intro e
   rcases ho.2 with ⟨hv,_⟩ | ⟨g,cap,cur,hv,_,hg2,_⟩
   ·rw [hv] at e; simp [Value.ownBlock] at e
   ·rw [hv] at e
    simp [Value.ownBlock] at e
    subst e
    rw [h1] at hg2
    cases hg2
    cases h2
 rcases h with h | h
 ·exact .inl (h.kept hg (fun e=>(hr b e.symm).1 rfl) key)
 ·exact .inr (h.kept hg (fun e=>(hr b e.symm).1 rfl) key)
theorem Shw.put_below {B:Nat}(W:World)(l:Nat)(o:Obj)(h:B≤l):Below B W (W.putObj l o):=by
 have hg:=grownBy_putObj' W l o
 exact ⟨hg.os,hg.tape,hg.output,hg.size,fun k hk=>World.putObj_heap_other (by omega)⟩
theorem Shw.tab_below {w W W':World}(h0:Tab w)(h:Tab W)(hb:Below w.heap.size W W'):Tab W':=by
 obtain ⟨h1,h2,m,h3⟩ :=h
 obtain ⟨g1,g2,m',g3⟩ :=h0
 have k:∀ (a:Addr) (v v':Value),w.cell? a=some v'→W.cell? a=some v→W'.cell? a=some v:=fun a v v' ha hv=>(hb.cell (World.block_lt_of_cell? _ _ ha)).trans hv
 exact ⟨fun i hi=>k _ _ _ (g1 i hi) (h1 i hi),k _ _ _ g2 h2,m,k _ _ _ g3 h3⟩
section
open Go.Shelf
attribute [local go_sem] Oper.semAt_some
set_option maxHeartbeats 8000000 in
set_option maxRecDepth 1000000 in
theorem Shw.field_range (u0 u1 u2 u3 u4 u5 u6 u8 u9 u10 u11 u12 u13 u14 u15 u16 u17 u18 u19 u21 u22 u23 u24 u25 u26 u27 u28 u29 u30 u31 u32 u33 u34 u35 u36 u37 u38 u39 u40 u41 u42 u43 u44 u45 u46 u47:Value)(tb q:Nat)(b:Int)(s:Bool)(hb:Shw.InU b)(ds:List Deferred)(w0 W:World)(hT:Tab w0)(h0:Below w0.heap.size w0 W)(htb:w0.heap.size≤tb)(hI:Shw.Is W.heap.size tb (⟨#[44]⟩:ByteArray) (Lib.strCells ⟨#[]⟩) W)(hq:Shw.FB W q b s)(hqt:q≠tb)(htl:tb < W.heap.size)(Q:Exit→Act→World→Prop)
  (hdone:∀ (D:Nat) (W':World),W.heap.size≤D→Shw.Fw W.heap.size tb W W'→Shw.Is W.heap.size tb (⟨#[44]⟩:ByteArray) (Lib.strCells (Shw.text (Shw.bits b))) W'→W'.heap[D]?=some (.deferred (some []))→
   Q .normal { tmps:=#[u0,u1,u2,u3,u4,u5,u6,.pointer (some ⟨tb,0,none⟩),u8,u9,u10,u11,u12,u13,u14,u15,u16,u17,u18,u19,.func (.func 45) #[] #[.pointer (some ⟨q,0,none⟩)],u21,u22,u23,u24,u25,u26,u27,u28,u29,u30,u31,u32,u33,u34,u35,u36,u37,u38,u39,u40,u41,u42,u43,u44,u45,u46,u47],defers:={ target:=.collected D,args:=#[] } :: ds } W') :
  Code.wpIn Fence.wide 6 Tryz.prog Shw.fieldRange Q { tmps:=#[u0,u1,u2,u3,u4,u5,u6,.pointer (some ⟨tb,0,none⟩),u8,u9,u10,u11,u12,u13,u14,u15,u16,u17,u18,u19,.func (.func 45) #[] #[.pointer (some ⟨q,0,none⟩)],u21,u22,u23,u24,u25,u26,u27,u28,u29,u30,u31,u32,u33,u34,u35,u36,u37,u38,u39,u40,u41,u42,u43,u44,u45,u46,u47],defers:=ds } W:=by
 conv=>arg 4; whnf
 have hql:=blk_lt hq
 replace hdone:=Lib.hid hdone
 have hTW:=hT.keep h0
 obtain ⟨L,hL⟩:∃ L,(Shw.runs (Shw.bits b) 64 0).map Shw.embR=L:=⟨_,rfl⟩
 have hLn:L.length≤64:=by rw [← hL,List.length_map]; exact Shw.runs_length _ 64 0
 have htx:Shw.foldF L ⟨#[]⟩=Shw.text (Shw.bits b):=by rw [← hL]; exact Shw.foldF_text _
 have hseq:=Shw.runs_stops (6 - 1) (by decide) q b s hb W hTW hq
 rw [hL] at hseq
 rw [← htx] at hdone
 refine wpIn_rangeFunc_ownF rfl (by decide) (gf:=45) (lb:=#[.pointer (some ⟨q,0,none⟩)]) rfl trivial (enters_of Tryz.func45 (by kernel_rfl) rfl)
  hseq (fun h k=>⟨k.1.trans h.1,fun t=>k.2 (h.2 t)⟩) (fun W' l o o' hl _ _ _=>⟨World.putObj_heap_other (by omega),fun t=>Shw.tab_below hT t (Shw.put_below W' l o' (by have:=h0.size; omega))⟩) (Below.refl _ _) (fun _=>rfl)
  (fun (pre:List Shw.RF) W'=>Shw.Fw W.heap.size tb W W'∧Shw.Is W.heap.size tb (⟨#[44]⟩:ByteArray) (Lib.strCells (Shw.foldF pre ⟨#[]⟩)) W') (fun _ _ _=>False)
  ?own (fun _ _ _ _ _ h _ _=>h) ⟨Shw.Fw.refl _ _ _,hI⟩
  (fun x=>{ tmps:=#[u0,u1,u2,u3,u4,u5,u6,.pointer (some ⟨tb,0,none⟩),.int .i64 (x.1.val:Int),.int .i64 (x.2.val:Int),u10,u11,u12,u13,u14,u15,u16,u17,u18,u19,.func (.func 45) #[] #[.pointer (some ⟨q,0,none⟩)],.int .i64 (x.1.val:Int),.int .i64 (x.2.val:Int),u23,u24,u25,u26,u27,u28,u29,u30,u31,u32,u33,u34,u35,u36,u37,u38,u39,u40,u41,u42,u43,u44,u45,u46,u47],defers:=[] }) ?assign ?body ?done ?stop
 case own=>
  intro pre W1 W2 row hs hg hr
  exact ⟨hs.1.trans (Shw.Fw.of_grown hg (fun k e=>(hr k e).1) hs.1.size),hs.2.kept hg (fun r e=>⟨by have:=(hr r e).1; omega,(hr r e).2⟩)⟩
 case assign=>
  intro l x W' K hK
  dsimp only [Shw.encR]
  gi_wp2
  exact hK
 case body=>
  rintro l pre x W1 ⟨hF,hIs⟩ hlen
  have hT1:Tab W1:=hT.keep (h0.trans (hF.below h0.size htb))
  obtain ⟨acc,hacc⟩:∃ acc,Shw.foldF pre ⟨#[]⟩=acc:=⟨_,rfl⟩
  have hal:acc.size≤6*64:=by rw [← hacc]; have:=Shw.foldF_le pre ⟨#[]⟩; have e0:(⟨#[]⟩:ByteArray).size=0:=rfl; omega
  rw [hacc] at hIs
  obtain ⟨⟨a,ha⟩,⟨e,he⟩⟩ :=x
  have hnext:Shw.foldF (pre ++ [(⟨a,ha⟩,⟨e,he⟩)]) ⟨#[]⟩=Shw.item acc a e:=by rw [Shw.foldF_app,hacc]
  have hKT:Hid (∀ W',Shw.Fr W.heap.size tb W1 W'→Shw.Is W.heap.size tb (⟨#[44]⟩:ByteArray) (Lib.strCells (Shw.item acc a e)) W'→KeepsOthers W1 W'∧Shw.KpR q W1 W'∧(Shw.Fw W.heap.size tb W W'∧Shw.Is W.heap.size tb (⟨#[44]⟩:ByteArray) (Lib.strCells (Shw.foldF (pre ++ [(⟨a,ha⟩,⟨e,he⟩)]) ⟨#[]⟩)) W')):=Lib.hid (by
   intro W' h1 h2
   rw [hnext]
   exact ⟨h1.oth,⟨h1.block q hql hqt,fun _=>hT.keep (h0.trans ((hF.trans h1.w).below h0.size htb))⟩,hF.trans h1.w,h2⟩)
  have hB1:Hid (W.heap.size≤W1.heap.size):=Lib.hid hF.size
  replace hIs:=Aside0.mk hIs
  replace hal:=Lib.hid hal
  have hd1:=Lib.hid (Shw.dg_le a)
  have hd2:=Lib.hid (Shw.dg_le e)
  have s1:(⟨#[44]⟩:ByteArray).size=1:=rfl
  have s2:(⟨#[45]⟩:ByteArray).size=1:=rfl
  replace s1:=Lib.hid s1
  replace s2:=Lib.hid s2
  clear hF hT1 hacc hnext hlen hdone hseq hT h0 htb hI hq hqt htl hTW hL hLn htx hql
  dsimp only
  have ba:(a:Int)≤63:=by omega
  have be:(e:Int)≤63:=by omega
  by_cases c1:e=a
  ·have q1:((e:Int) - (a:Int) == 0)=true:=by
    have:(e:Int) - (a:Int)=0:=by omega
    rw [this]; rfl
   have hit:Hid (Shw.item acc a e=Shw.add acc (Shw.dg a)):=Lib.hid (by unfold Shw.item; rw [if_pos c1])
   replace c1:=Lib.hid c1
   gi_wp2_with fail
   refine ⟨trivial,?_⟩
   refine (callsIn_wide.2 (Shw.itoa_calls a ha W1)).mono ?_
   rintro e1 W2 ⟨rfl,rfl⟩
   gi_wp2_with fail
   refine ⟨trivial,?_⟩
   refine (callsIn_wide.2 (Shw.piece_calls W.heap.size tb (⟨#[44]⟩:ByteArray) acc (Shw.dg a) _ hIs.out (by have:=hal.out; have:=hd1.out; have:=s1.out; omega) hB1.out)).mono ?_
   rintro e1 W3 ⟨rfl,hI3,hF3⟩
   gi_wp2_with fail
   exact hKT.out _ hF3 (by rw [hit.out]; exact hI3)
  ·have q1:((e:Int) - (a:Int) == 0)=false:=by
    have:¬ (e:Int) - (a:Int)=0:=by omega
    simpa using this
   by_cases c2:e=a+1
   ·have q2:((e:Int) - (a:Int) == 1)=true:=by
     have:(e:Int) - (a:Int)=1:=by omega
     rw [this]; rfl
    have hit:Hid (Shw.item acc a e=Shw.add (Shw.add acc (Shw.dg a)) (Shw.dg e)):=Lib.hid (by unfold Shw.item; rw [if_neg c1,if_pos c2])
    have hal2:=Lib.hid (Shw.add_le acc (Shw.dg a))
    replace c1:=Lib.hid c1
    replace c2:=Lib.hid c2
    gi_wp2_with fail
    refine ⟨trivial,?_⟩
    refine (callsIn_wide.2 (Shw.itoa_calls a ha W1)).mono ?_
    rintro e1 W2 ⟨rfl,rfl⟩
    gi_wp2_with fail
    refine ⟨trivial,?_⟩
    refine (callsIn_wide.2 (Shw.piece_calls W.heap.size tb (⟨#[44]⟩:ByteArray) acc (Shw.dg a) _ hIs.out (by have:=hal.out; have:=hd1.out; have:=s1.out; omega) hB1.out)).mono ?_
    rintro e1 W3 ⟨rfl,hI3,hF3⟩
    replace hI3:=Aside0.mk hI3
    gi_wp2_with fail
    refine ⟨trivial,?_⟩
    refine (callsIn_wide.2 (Shw.itoa_calls e he W3)).mono ?_
    rintro e1 W4 ⟨rfl,rfl⟩
    gi_wp2_with fail
    refine ⟨trivial,?_⟩
    refine (callsIn_wide.2 (Shw.piece_calls W.heap.size tb (⟨#[44]⟩:ByteArray) (Shw.add acc (Shw.dg a)) (Shw.dg e) _ hI3.out (by have:=hal.out; have:=hal2.out; have:=hd1.out; have:=hd2.out; have:=s1.out; omega) (by have:=hB1.out; have:=hF3.size; omega))).mono ?_
    rintro e1 W5 ⟨rfl,hI5,hF5⟩
    gi_wp2_with fail
    exact hKT.out _ (hF3.trans hF5) (by rw [hit.out]; exact hI5)
   ·have q2:((e:Int) - (a:Int) == 1)=false:=by
     have:¬ (e:Int) - (a:Int)=1:=by omega
     simpa using this
    have hit:Hid (Shw.item acc a e=Shw.add acc (Shw.dg a ++ (⟨#[45]⟩:ByteArray) ++ Shw.dg e)):=Lib.hid (by unfold Shw.item; rw [if_neg c1,if_neg c2])
    replace c1:=Lib.hid c1
    replace c2:=Lib.hid c2
    have hd3:Hid ((Shw.dg a ++ (⟨#[45]⟩:ByteArray)).size=(Shw.dg a).size+1):=Lib.hid (by rw [ByteArray.size_append]; rfl)
    have z1:(Shw.dg a).size+1≤9223372036854775807:=by have:=hd1.out; omega
    have z1b:(9223372036854775807 < (Shw.dg a).size+1)=False:=eq_false (by omega)
    have z2:(Shw.dg a ++ (⟨#[45]⟩:ByteArray)).size+(Shw.dg e).size≤9223372036854775807:=by have:=hd1.out; have:=hd2.out; have:=hd3.out; omega
    have z2b:(9223372036854775807 < (Shw.dg a ++ (⟨#[45]⟩:ByteArray)).size+(Shw.dg e).size)=False:=eq_false (by omega)
    have z3:(Shw.dg a).size+1+(Shw.dg e).size≤9223372036854775807:=by have:=hd1.out; have:=hd2.out; omega
    have z3b:(9223372036854775807 < (Shw.dg a).size+1+(Shw.dg e).size)=False:=eq_false (by omega)
    gi_wp2_with fail
    refine ⟨trivial,?_⟩
    refine (callsIn_wide.2 (Shw.itoa_calls a ha W1)).mono ?_
    rintro e1 W2 ⟨rfl,rfl⟩
    gi_wp2_with fail
    refine ⟨trivial,?_⟩
    refine (callsIn_wide.2 (Shw.itoa_calls e he _)).mono ?_
    rintro e1 W3 ⟨rfl,rfl⟩
    gi_wp2_with fail
    refine ⟨trivial,?_⟩
    refine (callsIn_wide.2 (Shw.piece_calls W.heap.size tb (⟨#[44]⟩:ByteArray) acc (Shw.dg a ++ (⟨#[45]⟩:ByteArray) ++ Shw.dg e) _ hIs.out (by have:=hal.out; have:=hd1.out; have:=hd2.out; have:=s1.out; have:=s2.out; simp only [ByteArray.size_append]; omega) hB1.out)).mono ?_
    rintro e1 W4 ⟨rfl,hI4,hF4⟩
    gi_wp2_with fail
    exact hKT.out _ hF4 (by rw [hit.out]; exact hI4)
 case done=>
  rintro D ys W' hD rfl ⟨hF,hIs⟩ hK
  exact hdone.out D W' hD hF hIs hK
 case stop=>
  rintro D c pre W' _ _ h _
  exact h.elim
end
section
open Go.Shelf
set_option maxHeartbeats 2000000 in
set_option maxRecDepth 100000 in
theorem Shw.runs_box (b:Int)(s:Bool)(W:World) :
  Calls Tryz.prog 21 #[.agg #[.int .u64 b,.bool s]] W fun e w'=>e=.returned (.func (.func 45) #[] #[.pointer (some ⟨W.heap.size,0,none⟩)])∧Below W.heap.size W w'∧w'.heap.size=W.heap.size+1∧Shw.FB w' W.heap.size b s:=by
 have HW:Aside0 (Below W.heap.size W (W.alloc (.cells #[.int .u64 b,.bool s] 24))∧(W.alloc (.cells #[.int .u64 b,.bool s] 24)).heap.size=W.heap.size+1∧Shw.FB (W.alloc (.cells #[.int .u64 b,.bool s] 24)) W.heap.size b s):=⟨⟨below_alloc (Below.refl _ _) _,by simp,heap_alloc_new W _⟩⟩
 go_enter Tryz.func21,Tryz.ntmps21
 go_wp2
 go_ret
 exact ⟨rfl,HW.out⟩
end
theorem Shw.check_ne {b:Int}{s:Bool}{kind:Int}(h:field_Check.f b s kind=some 0):b≠0:=by
 rintro rfl
 unfold field_Check.f at h
 obtain ⟨t,h1,h⟩ :=Option.bind_eq_some_iff.1 h
 by_cases c:t.2.2=0
 ·rw [if_pos c] at h
  obtain ⟨t2,h2,h⟩ :=Option.bind_eq_some_iff.1 h
  rw [if_pos rfl] at h
  cases h
 ·rw [if_neg c] at h
  exact c (Option.some.inj h)
theorem Shw.text_ne (b:Int)(hb:Shw.InU b)(h:b≠0):Shw.text (Shw.bits b)≠⟨#[]⟩ :=by
  intro e
  have hz:b.toNat≠0:=by have:=hb.1; omega
  obtain ⟨i,hi⟩:∃ i,b.toNat.testBit i=true:=by
    apply Classical.byContradiction
    intro hn
    exact hz (Nat.eq_of_testBit_eq fun i=>by
      rw [Nat.zero_testBit]
      cases hq:b.toNat.testBit i with
      | true=>exact absurd ⟨i,hq⟩ hn
      | false=>rfl)
  have hi64:i < 64:=by
    apply Classical.byContradiction
    intro hn
    have h1 : b.toNat < 2 ^ 64 := by have := hb.2; have e2 : (2 : Nat) ^ 64 = 18446744073709551616 := by decide
                                     omega
    rw [Nat.testBit_lt_two_pow (Nat.lt_of_lt_of_le h1 (Nat.pow_le_pow_right (by decide) (by omega)))] at hi
    cases hi
  have hf:Shw.fst (Shw.bits b) (64 - 0) 0≠none:=fun hn=>by
    have:=Shw.fst_none hn i (Nat.zero_le _) (by omega)
    rw [show Shw.bits b i=true from hi] at this
    cases this
  have hr:∃ a e l,Shw.runs (Shw.bits b) 64 0=(a,e) :: l:=by
    show ∃ a e l,Shw.runs (Shw.bits b) (63+1) 0=(a,e) :: l
    rw [Shw.runs]
    cases hq:Shw.fst (Shw.bits b) (64 - 0) 0 with
    | none=>exact absurd hq hf
    | some a=>exact ⟨_,_,_,rfl⟩
  obtain ⟨a,e2,l,hl⟩ :=hr
  have hs:(Shw.text (Shw.bits b)).size≠0:=by
    unfold Shw.text Shw.fold
    rw [hl,List.foldl_cons]
    exact Shw.fold_ne l _ (Shw.item_ne _ _ _)
  rw [e] at hs
  exact hs rfl
section
open Go.Shelf
attribute [local go_sem] Oper.semAt_some
set_option maxHeartbeats 8000000 in
set_option maxRecDepth 1000000 in
theorem Shw.field_bad (b:Int)(s:Bool)(kind e0:Int)(hC:field_Check.f b s kind=some e0)(he:e0≠0)(w:World) :
  CallsIn Fence.wide 6 Tryz.prog 10 #[.agg #[.int .u64 b,.bool s],.int .i64 kind] w fun e w'=>e=.returned (.tuple #[.string ⟨#[]⟩,.int .i64 e0])∧Below w.heap.size w w':=by
 have HB:=Aside0.mk (show Shw.FB (w.alloc (.cells #[.int .u64 b,.bool s] 24)) w.heap.size b s∧Below w.heap.size w (w.alloc (.cells #[.int .u64 b,.bool s] 24)) from ⟨blk_new w _,below_alloc (Below.refl _ _) _⟩)
 replace hC:=Lib.hid hC
 have q1:(e0 != 0)=true:=by simpa using he
 refine callsIn_of_wp_marks Tryz.func10 rfl trivial ?_ rfl
 simp only [Tryz.ntmps10,List.size_toArray,List.length_cons,List.length_nil,Nat.reduceAdd,Nat.reduceSub,Array.replicate_succ,Array.replicate_zero,List.push_toArray,List.append_toArray,List.nil_append,List.cons_append]
 gi_wp2_with fail
 refine ⟨trivial,?_⟩
 generalize w.alloc (.cells #[.int .u64 b,.bool s] 24)=w1 at HB ⊢
 refine (callsIn_wide.2 (field_Check.calls b s kind _ _ hC.out)).mono ?_
 rintro e w2 ⟨rfl,hb⟩
 have H2:=Aside0.mk (show Shw.FB w2 w.heap.size b s∧Below w.heap.size w w2 from ⟨blk_below HB.out.1 hb,below_step HB.out.2 hb⟩)
 clear HB hb
 have k0:w2.cell? ⟨w.heap.size,0,none⟩=some (.int .u64 b):=(blk_cell H2.out.1 0).trans rfl
 have k1:w2.cell? ⟨w.heap.size,1,none⟩=some (.bool s):=(blk_cell H2.out.1 1).trans rfl
 gi_wp2_with fail
 refine Shw.leave w.heap.size _ 0 _ trivial ?_
 intro W2 hb2 hc
 refine ⟨.tuple #[.string ⟨#[]⟩,.int .i64 e0],results_tmp2 Tryz.results10 _ _ _,rfl,?_⟩
 exact H2.out.2.trans hb2
set_option maxHeartbeats 8000000 in
set_option maxRecDepth 1000000 in
theorem Shw.field_star (b:Int)(kind:Int)(s:Bool)(hs:s=true)(hC:field_Check.f b s kind=some 0)(w:World) :
  CallsIn Fence.wide 6 Tryz.prog 10 #[.agg #[.int .u64 b,.bool s],.int .i64 kind] w fun e w'=>e=.returned (.tuple #[.string ⟨#[42]⟩,.int .i64 0])∧Below w.heap.size w w':=by
 subst hs
 have HB:=Aside0.mk (show Shw.FB (w.alloc (.cells #[.int .u64 b,.bool true] 24)) w.heap.size b true∧Below w.heap.size w (w.alloc (.cells #[.int .u64 b,.bool true] 24)) from ⟨blk_new w _,below_alloc (Below.refl _ _) _⟩)
 replace hC:=Lib.hid hC
 refine callsIn_of_wp_marks Tryz.func10 rfl trivial ?_ rfl
 simp only [Tryz.ntmps10,List.size_toArray,List.length_cons,List.length_nil,Nat.reduceAdd,Nat.reduceSub,Array.replicate_succ,Array.replicate_zero,List.push_toArray,List.append_toArray,List.nil_append,List.cons_append]
 gi_wp2_with fail
 refine ⟨trivial,?_⟩
 generalize w.alloc (.cells #[.int .u64 b,.bool true] 24)=w1 at HB ⊢
 refine (callsIn_wide.2 (field_Check.calls b true kind _ _ hC.out)).mono ?_
 rintro e w2 ⟨rfl,hb⟩
 have H2:=Aside0.mk (show Shw.FB w2 w.heap.size b true∧Below w.heap.size w w2 from ⟨blk_below HB.out.1 hb,below_step HB.out.2 hb⟩)
 clear HB hb
 have k0:w2.cell? ⟨w.heap.size,0,none⟩=some (.int .u64 b):=(blk_cell H2.out.1 0).trans rfl
 have k1:w2.cell? ⟨w.heap.size,1,none⟩=some (.bool true):=(blk_cell H2.out.1 1).trans rfl
 gi_wp2_with fail
 refine Shw.leave w.heap.size _ 0 _ trivial ?_
 intro W2 hb2 hc
 refine ⟨.tuple #[.string ⟨#[42]⟩,.int .i64 0],results_tmp2 Tryz.results10 _ _ _,rfl,?_⟩
 exact H2.out.2.trans hb2
set_option maxHeartbeats 8000000 in
set_option maxRecDepth 1000000 in
theorem Shw.field_good (b:Int)(kind:Int)(s:Bool)(hs:s=false)(hb:Shw.InU b)(hC:field_Check.f b s kind=some 0)(w:World)(hT:Tab w) :
  CallsIn Fence.wide 6 Tryz.prog 10 #[.agg #[.int .u64 b,.bool s],.int .i64 kind] w fun e w'=>e=.returned (.tuple #[.string (Shw.text (Shw.bits b)),.int .i64 0])∧Below w.heap.size w w':=by
 subst hs
 have HB:=Aside0.mk (show Shw.FB (w.alloc (.cells #[.int .u64 b,.bool false] 24)) w.heap.size b false∧Below w.heap.size w (w.alloc (.cells #[.int .u64 b,.bool false] 24)) from ⟨blk_new w _,below_alloc (Below.refl _ _) _⟩)
 have hne:=Lib.hid (Shw.text_ne b hb (Shw.check_ne hC))
 replace hC:=Lib.hid hC
 replace hb:=Lib.hid hb
 refine callsIn_of_wp_marks Tryz.func10 rfl trivial ?_ rfl
 simp only [Tryz.ntmps10,List.size_toArray,List.length_cons,List.length_nil,Nat.reduceAdd,Nat.reduceSub,Array.replicate_succ,Array.replicate_zero,List.push_toArray,List.append_toArray,List.nil_append,List.cons_append]
 gi_wp2_with fail
 refine ⟨trivial,?_⟩
 generalize w.alloc (.cells #[.int .u64 b,.bool false] 24)=w1 at HB ⊢
 refine (callsIn_wide.2 (field_Check.calls b false kind _ _ hC.out)).mono ?_
 rintro e w2 ⟨rfl,hb⟩
 have H2:=Aside0.mk (show Shw.FB w2 w.heap.size b false∧Below w.heap.size w w2 from ⟨blk_below HB.out.1 hb,below_step HB.out.2 hb⟩)
 clear HB hb
 have k0:w2.cell? ⟨w.heap.size,0,none⟩=some (.int .u64 b):=(blk_cell H2.out.1 0).trans rfl
 have k1:w2.cell? ⟨w.heap.size,1,none⟩=some (.bool false):=(blk_cell H2.out.1 1).trans rfl
 have H3:=Aside0.mk (show Shw.FB (w2.alloc (.cells #[.pointer none,.slice none 0 0,.string (⟨#[44]⟩:ByteArray)] 50)) w.heap.size b false∧Below w.heap.size w (w2.alloc (.cells #[.pointer none,.slice none 0 0,.string (⟨#[44]⟩:ByteArray)] 50))∧(w2.alloc (.cells #[.pointer none,.slice none 0 0,.string (⟨#[44]⟩:ByteArray)] 50)).heap[w2.heap.size]?=some (.cells #[.pointer none,.slice none 0 0,.string (⟨#[44]⟩:ByteArray)] 50 (0,0))∧(w2.alloc (.cells #[.pointer none,.slice none 0 0,.string (⟨#[44]⟩:ByteArray)] 50)).heap.size=w2.heap.size+1 from ⟨blk_alloc H2.out.1 _,below_alloc H2.out.2 _,heap_alloc_new _ _,by simp⟩)
 have j0:(w2.alloc (.cells #[.pointer none,.slice none 0 0,.string (⟨#[44]⟩:ByteArray)] 50)).cell? ⟨w.heap.size,0,none⟩=some (.int .u64 b):=(blk_cell H3.out.1 0).trans rfl
 have j1:(w2.alloc (.cells #[.pointer none,.slice none 0 0,.string (⟨#[44]⟩:ByteArray)] 50)).cell? ⟨w.heap.size,1,none⟩=some (.bool false):=(blk_cell H3.out.1 1).trans rfl
 obtain ⟨tb,htb⟩:∃ tb,w2.heap.size=tb:=⟨_,rfl⟩
 have hlt:w.heap.size < tb:=by rw [← htb]; exact blk_lt H2.out.1
 replace hlt:=Lib.hid hlt
 gi_wp2_with fail
 refine ⟨trivial,?_⟩
 rw [htb] at H3
 generalize w2.alloc (.cells #[.pointer none,.slice none 0 0,.string (⟨#[44]⟩:ByteArray)] 50)=w3 at H3 ⊢
 clear k0 k1 j0 j1 htb H2
 refine (callsIn_wide.2 (Shw.runs_box b false w3)).mono ?_
 rintro e w4 ⟨rfl,hb4,hsz4,hq4⟩
 gi_wp2_with fail
 have hB4:=below_step H3.out.2.1 hb4
 have ht4:w4.heap[tb]?=some (.cells #[.pointer none,.slice none 0 0,.string (⟨#[44]⟩:ByteArray)] 50 (0,0)):=blk_below H3.out.2.2.1 hb4
 have hs3:=H3.out.2.2.2
 refine Shw.field_range _ _ _ _ _ _ _ _ _ _ _ _ _ _ _ _ _ _ _ _ _ _ _ _ _ _ _ _ _ _ _ _ _ _ _ _ _ _ _ _ _ _ _ _ _ _ tb w3.heap.size b false hb.out [] w w4 hT hB4 (Nat.le_of_lt hlt.out) (.inl ⟨.slice none 0 0,ht4,?own0,by simp [Value.ownBlock]⟩) hq4 (by omega) (by omega) _ ?_
 case own0=>exact ⟨by simp [Lib.strCells],.inl ⟨rfl,rfl⟩⟩
 intro D W' hD hF hIs hK
 have hBW:=hB4.trans (hF.below hB4.size (Nat.le_of_lt hlt.out))
 replace hF:=Aside0.mk hF
 replace hK:=Aside0.mk hK
 have hIs2:=Aside0.mk (show Shw.Is w4.heap.size tb (⟨#[44]⟩:ByteArray) (Lib.byteCells (Shw.text (Shw.bits b)).data.toList) W' from hIs)
 clear hIs hb4 ht4 hq4 hs3 H3 hC
 replace hBW:=Aside0.mk hBW
 replace hB4:=Aside0.mk hB4
 gi_wp2_with fail
 refine ⟨trivial,?_⟩
 refine (callsIn_wide.2 (Shw.string_calls w4.heap.size tb _ _ W' hIs2.out (fun e=>hne.out ?ne))).mono ?_
 case ne=>
  have:(Shw.text (Shw.bits b)).data=#[]:=by rw [← Array.toList_eq_nil_iff]; exact e
  cases hx:Shw.text (Shw.bits b) with
  | mk d=>rw [hx] at this; rw [show d=#[] from this]
 rintro e W2 ⟨rfl,hb2,ho2⟩
 gi_wp2_with fail
 refine Shw.leave w.heap.size _ (D+1) _ ⟨D,rfl,?g1,by omega,ho2.same D _ hK.out rfl,trivial⟩ ?_
 case g1=>have:=hB4.out.size; omega
 intro W3 hb3 hc
 refine ⟨.tuple #[.string (Shw.text (Shw.bits b)),.int .i64 0],?res,rfl,?_⟩
 case res=>
  have e2:(⟨(Shw.text (Shw.bits b)).data.toList.toArray⟩:ByteArray)=Shw.text (Shw.bits b):=by simp
  rw [← e2]
  exact results_tmp2 Tryz.results10 _ _ _
 exact (hBW.out.trans ((show Below w.heap.size W' W2 from ⟨hb2.os,hb2.tape,hb2.output,hb2.size,fun k hk=>hb2.block k (by have:=hB4.out.size; omega)⟩))).trans hb3
end
def show_Field.f (a0_0:Int)(a0_1:Bool)(a1:Int):Option (ByteArray × Int):=Shw.fieldF a0_0 a0_1 a1
set_option maxHeartbeats 8000000 in
set_option maxRecDepth 100000 in
theorem show_Field.calls (a0_0:Int)(a0_1:Bool)(a1:Int)(r1:ByteArray)(r2:Int)(w:World)(hT:Tab w)(h:show_Field.f a0_0 a0_1 a1=some (r1,r2)) :
  Calls Tryz.prog 10 #[.agg #[.int .u64 a0_0,.bool a0_1],.int .i64 a1] w fun e w'=>e=.returned (.tuple #[.string r1,.int .i64 r2])∧Below w.heap.size w w':=by
 have HB:=Aside0.mk (Below.refl w.heap.size w)
 have hh:Shw.fieldF a0_0 a0_1 a1=some (r1,r2):=h
 clear h
 unfold Shw.fieldF at hh
 by_cases hb:0≤a0_0∧a0_0 < 18446744073709551616
 ·rw [if_pos hb] at hh
  obtain ⟨e,hC,hh⟩ :=Option.bind_eq_some_iff.1 hh
  by_cases he:e=0
  ·subst he
   rw [if_neg (by decide)] at hh
   obtain ⟨rfl,rfl⟩ :=Prod.mk.inj (Option.some.inj hh)
   cases a0_1 with
   | true=>exact callsIn_wide.1 (Shw.field_star a0_0 a1 true rfl hC w)
   | false=>exact callsIn_wide.1 (Shw.field_good a0_0 a1 false rfl hb hC w hT)
  ·rw [if_pos he] at hh
   obtain ⟨rfl,rfl⟩ :=Prod.mk.inj (Option.some.inj hh)
   exact callsIn_wide.1 (Shw.field_bad a0_0 a0_1 a1 _ hC he w)
 ·rw [if_neg hb] at hh
  cases hh
end Go.Proofs.YtcmmmlenaahaeaaGreatDoor.PShw
