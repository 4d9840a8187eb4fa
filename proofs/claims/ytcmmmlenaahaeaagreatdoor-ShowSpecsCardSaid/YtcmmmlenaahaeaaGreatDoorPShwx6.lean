-- Written by a program of this session (gprint.py) over the kit's print.
import Derived.Test.YtcmmmlenaahaeaaGreatDoorPShwx0
import Derived.Test.YtcmmmlenaahaeaaGreatDoorPShwx3
import Derived.Test.YtcmmmlenaahaeaaGreatDoorPShwx4
import Derived.Test.YtcmmmlenaahaeaaGreatDoorPShwx5
namespace Go.Proofs.YtcmmmlenaahaeaaGreatDoor.PShw
open Go.RowKit Go.Proofs.YtcmmmlenaahaeaaGreatDoorW.PrintWords Go.Proofs.YtcmmmlenaahaeaaGreatDoorW.PrintLast Go.Proofs.YtcmmmlenaahaeaaGreatDoorW.PrintMore
attribute [local go_sem] max2_int min2_int max_two min_two max_three min_three max_four min_four
set_option linter.unusedVariables false
set_option linter.unusedSimpArgs false
/-- What show.Spec tells. -/
def Shw.specF (b0:Int)(s0:Bool)(b1:Int)(s1:Bool)(b2:Int)(s2:Bool)(b3:Int)(s3:Bool)(b4:Int)(s4:Bool):Option (ByteArray × Int × Int):=
 (spec_Check.f b0 s0 b1 s1 b2 s2 b3 s3 b4 s4).bind fun p=>if p.2≠0 then some (⟨#[]⟩,p.1,p.2) else
  (Shw.fieldF b0 s0 0).bind fun t0=>(Shw.fieldF b1 s1 1).bind fun t1=>(Shw.fieldF b2 s2 2).bind fun t2=>(Shw.fieldF b3 s3 3).bind fun t3=>(Shw.fieldF b4 s4 4).bind fun t4=>
   some (Shw.addB (Shw.addB (Shw.addB (Shw.addB (Shw.addB ⟨#[]⟩ t0.1) t1.1) t2.1) t3.1) t4.1,0,0)
/-- What spec.Check tells. -/
theorem Shw.check_cases (b0:Int)(s0:Bool)(b1:Int)(s1:Bool)(b2:Int)(s2:Bool)(b3:Int)(s3:Bool)(b4:Int)(s4:Bool)(n e:Int)(h:spec_Check.f b0 s0 b1 s1 b2 s2 b3 s3 b4 s4=some (n,e)) :
  (e≠0∧1≤n∧n≤5)∨(e=0∧n=0∧field_Check.f b0 s0 0=some 0∧field_Check.f b1 s1 1=some 0∧field_Check.f b2 s2 2=some 0∧field_Check.f b3 s3 3=some 0∧field_Check.f b4 s4 4=some 0):=by
 unfold spec_Check.f at h
 have st:∀ (o:Option Int) (k:Int) (F:Option (Int × Int)),(o.bind fun e0=>if e0≠0 then some (k,e0) else F)=some (n,e)→(e≠0∧n=k)∨(o=some 0∧F=some (n,e)):=by
  intro o k F q
  cases o with
  | none=>cases q
  | some x=>
   rw [Option.bind_some] at q
   by_cases c:x≠0
   ·rw [if_pos c] at q
    obtain ⟨rfl,rfl⟩ :=Prod.mk.inj (Option.some.inj q)
    exact .inl ⟨c,rfl⟩
   ·rw [if_neg c] at q
    obtain rfl:x=0:=by simpa using c
    exact .inr ⟨rfl,q⟩
 rcases st _ _ _ h with ⟨q,rfl⟩ | ⟨c0,h⟩
 ·exact .inl ⟨q,by decide,by decide⟩
 rcases st _ _ _ h with ⟨q,rfl⟩ | ⟨c1,h⟩
 ·exact .inl ⟨q,by decide,by decide⟩
 rcases st _ _ _ h with ⟨q,rfl⟩ | ⟨c2,h⟩
 ·exact .inl ⟨q,by decide,by decide⟩
 rcases st _ _ _ h with ⟨q,rfl⟩ | ⟨c3,h⟩
 ·exact .inl ⟨q,by decide,by decide⟩
 rcases st _ _ _ h with ⟨q,rfl⟩ | ⟨c4,h⟩
 ·exact .inl ⟨q,by decide,by decide⟩
 obtain ⟨rfl,rfl⟩ :=Prod.mk.inj (Option.some.inj h)
 exact .inr ⟨rfl,rfl,c0,c1,c2,c3,c4⟩
theorem Shw.addB_le (acc s:ByteArray):(Shw.addB acc s).size≤acc.size+s.size+1:=by
 unfold Shw.addB
 split
 ·omega
 ·simp only [ByteArray.size_append]; have:(⟨#[32]⟩:ByteArray).size=1:=rfl; omega
theorem Shw.addB_ne (acc s:ByteArray)(h:s.size≠0):(Shw.addB acc s).size≠0:=by
 unfold Shw.addB
 split
 ·exact h
 ·simp only [ByteArray.size_append]; omega
theorem Shw.ftext_le (b:Int)(s:Bool):(Shw.ftext b s).size≤400:=by
 unfold Shw.ftext
 split
 ·decide
 ·have h1:=Shw.foldF_text (fun i=>b.toNat.testBit i)
  have h2:=Shw.foldF_le ((Shw.runs (fun i=>b.toNat.testBit i) 64 0).map Shw.embR) ⟨#[]⟩
  have h3:=Shw.runs_length (fun i=>b.toNat.testBit i) 64 0
  rw [h1,List.length_map] at h2
  have e0:(⟨#[]⟩:ByteArray).size=0:=rfl
  omega
theorem Shw.ftext_ne (b:Int)(s:Bool)(hb:Shw.InU b)(h:b≠0):(Shw.ftext b s).size≠0:=by
 unfold Shw.ftext
 split
 ·decide
 ·intro e
  refine Shw.text_ne b hb h ?_
  have hd:(Shw.text (Shw.bits b)).data=#[]:=by
   have:=Array.size_eq_zero_iff.1 e
   exact this
  cases hx:Shw.text (Shw.bits b) with
  | mk d=>rw [hx] at hd; rw [show d=#[] from hd]
def Shw.accB (T:Nat→ByteArray):Nat→ByteArray
 | 0=>⟨#[]⟩
 | k+1=>Shw.addB (Shw.accB T k) (T k)
theorem Shw.accB_le (T:Nat→ByteArray)(h:∀ k,(T k).size≤400):∀ k,(Shw.accB T k).size≤401*k
 | 0=>Nat.le_refl _
 | k+1=>by
  have h1:=Shw.accB_le T h k
  have h2:=Shw.addB_le (Shw.accB T k) (T k)
  have h3:=h k
  show (Shw.addB (Shw.accB T k) (T k)).size≤_
  omega
theorem Shw.si_step {B tb:Nat}{acc:ByteArray}{w2 W W':World}(h:Aside0 (Shw.Is B tb (⟨#[32]⟩:ByteArray) (Lib.strCells acc) W∧Shw.Fw B tb w2 W))(hb:Below W.heap.size W W')(hB:B≤w2.heap.size):Aside0 (Shw.Is B tb (⟨#[32]⟩:ByteArray) (Lib.strCells acc) W'∧Shw.Fw B tb w2 W'):=by
 have hg:W.grownBy W' none:=⟨hb.os,hb.tape,hb.output,hb.size,fun k hk _=>hb.block k hk⟩
 exact ⟨⟨h.out.1.kept hg (fun _ e=>by cases e),h.out.2.trans (Shw.Fw.of_grown hg (fun _ e=>by cases e) (by have:=h.out.2.size; omega))⟩⟩
section
open Go.Shelf
set_option maxHeartbeats 8000000 in
set_option maxRecDepth 1000000 in
theorem Shw.spec_bad (b0:Int)(s0:Bool)(b1:Int)(s1:Bool)(b2:Int)(s2:Bool)(b3:Int)(s3:Bool)(b4:Int)(s4:Bool)(n e:Int)(hC:spec_Check.f b0 s0 b1 s1 b2 s2 b3 s3 b4 s4=some (n,e))(he:e≠0)(w:World) :
  Calls Tryz.prog 12 #[.agg #[.int .u64 b0,.bool s0,.int .u64 b1,.bool s1,.int .u64 b2,.bool s2,.int .u64 b3,.bool s3,.int .u64 b4,.bool s4]] w fun e' w'=>e'=.returned (.tuple #[.string ⟨#[]⟩,.int .i64 n,.int .i64 e])∧Below w.heap.size w w':=by
 have q1:(e != 0)=true:=by simpa using he
 have HW:=Aside0.mk (show Spc.Row ((w.alloc (.cells #[.int .u64 b0,.bool s0,.int .u64 b1,.bool s1,.int .u64 b2,.bool s2,.int .u64 b3,.bool s3,.int .u64 b4,.bool s4] 31)).alloc (.cells #[.pointer none,.slice none 0 0,.string (⟨#[32]⟩:ByteArray)] 50)) w.heap.size b0 s0 b1 s1 b2 s2 b3 s3 b4 s4∧Below w.heap.size w ((w.alloc (.cells #[.int .u64 b0,.bool s0,.int .u64 b1,.bool s1,.int .u64 b2,.bool s2,.int .u64 b3,.bool s3,.int .u64 b4,.bool s4] 31)).alloc (.cells #[.pointer none,.slice none 0 0,.string (⟨#[32]⟩:ByteArray)] 50)) from ⟨blk_alloc (blk_new w _) _,below_alloc (below_alloc (Below.refl _ _) _) _⟩)
 replace hC:=Lib.hid hC
 obtain ⟨k0,k1,k2,k3,k4,k5,k6,k7,k8,k9⟩ :=HW.out.1.cells
 go_enter Tryz.func12,Tryz.ntmps12
 go_wp2_with fail
 refine wp_scope_jumps 0 (fun a W=>(∃ u5 u8 u9 u10 u11 u12 u13 u14 u15 u16 u17 u18 u19 u20 u21 u22 u23 u24 u25 u26 u27 u28 u29 u30 u31 u32 u33 u34 u35 u36 u37 u38 u39 u40 u41 u42,a={ tmps:=#[.agg #[.int .u64 b0,.bool s0,.int .u64 b1,.bool s1,.int .u64 b2,.bool s2,.int .u64 b3,.bool s3,.int .u64 b4,.bool s4],.pointer (some ⟨w.heap.size,0,none⟩),.string ⟨#[]⟩,.int .i64 0,.int .i64 0,u5,.int .i64 n,.int .i64 e,u8,u9,u10,u11,u12,u13,u14,u15,u16,u17,u18,u19,u20,u21,u22,u23,u24,u25,u26,u27,u28,u29,u30,u31,u32,u33,u34,u35,u36,u37,u38,u39,u40,u41,u42],defers:=[] })∧Below w.heap.size w W) (fun _ _=>0) rfl ?_ ?_
 ·go_wp2_with fail
  refine (spec_Check.calls _ _ _ _ _ _ _ _ _ _ n e _ hC.out).mono ?_
  rintro e1 w2 ⟨rfl,hb2⟩
  have H2:=below_step HW.out.2 hb2
  clear k0 k1 k2 k3 k4 k5 k6 k7 k8 k9 HW hb2
  go_wp2_with fail
  refine wp_goto ?_
  exact ⟨rfl,⟨_,_,_,_,_,_,_,_,_,_,_,_,_,_,_,_,_,_,_,_,_,_,_,_,_,_,_,_,_,_,_,_,_,_,_,_,rfl⟩,H2⟩
 ·rintro a W ⟨⟨u5,u8,u9,u10,u11,u12,u13,u14,u15,u16,u17,u18,u19,u20,u21,u22,u23,u24,u25,u26,u27,u28,u29,u30,u31,u32,u33,u34,u35,u36,u37,u38,u39,u40,u41,u42,rfl⟩,hb2⟩
  go_wp2_with fail
  exact ⟨rfl,_,results_tmp3 Tryz.results12 _ _ _,rfl,hb2⟩
set_option maxHeartbeats 8000000 in
set_option maxRecDepth 1000000 in
theorem Shw.spec_good (b0:Int)(s0:Bool)(b1:Int)(s1:Bool)(b2:Int)(s2:Bool)(b3:Int)(s3:Bool)(b4:Int)(s4:Bool)(n:Int)(hC:spec_Check.f b0 s0 b1 s1 b2 s2 b3 s3 b4 s4=some (n,0))(F:Nat→Int × Bool)(hG:∀ k:Nat,k < 5→spec_Get.f b0 s0 b1 s1 b2 s2 b3 s3 b4 s4 (k:Int)=some ((F k).1,(F k).2,0))(T:Nat→ByteArray)(hF:∀ k:Nat,k < 5→show_Field.f (F k).1 (F k).2 (k:Int)=some (T k,0))(hT4:∀ k:Nat,(T k).size≤400)(hne:(Shw.accB T 5).size≠0)(w:World)(hT:Tab w) :
  Calls Tryz.prog 12 #[.agg #[.int .u64 b0,.bool s0,.int .u64 b1,.bool s1,.int .u64 b2,.bool s2,.int .u64 b3,.bool s3,.int .u64 b4,.bool s4]] w fun e' w'=>e'=.returned (.tuple #[.string (Shw.accB T 5),.int .i64 0,.int .i64 0])∧Below w.heap.size w w':=by
 have HW:=Aside0.mk (show Spc.Row ((w.alloc (.cells #[.int .u64 b0,.bool s0,.int .u64 b1,.bool s1,.int .u64 b2,.bool s2,.int .u64 b3,.bool s3,.int .u64 b4,.bool s4] 31)).alloc (.cells #[.pointer none,.slice none 0 0,.string (⟨#[32]⟩:ByteArray)] 50)) w.heap.size b0 s0 b1 s1 b2 s2 b3 s3 b4 s4∧Below w.heap.size w ((w.alloc (.cells #[.int .u64 b0,.bool s0,.int .u64 b1,.bool s1,.int .u64 b2,.bool s2,.int .u64 b3,.bool s3,.int .u64 b4,.bool s4] 31)).alloc (.cells #[.pointer none,.slice none 0 0,.string (⟨#[32]⟩:ByteArray)] 50)) from ⟨blk_alloc (blk_new w _) _,below_alloc (below_alloc (Below.refl _ _) _) _⟩)
 have HT:=Aside0.mk (show ((w.alloc (.cells #[.int .u64 b0,.bool s0,.int .u64 b1,.bool s1,.int .u64 b2,.bool s2,.int .u64 b3,.bool s3,.int .u64 b4,.bool s4] 31)).alloc (.cells #[.pointer none,.slice none 0 0,.string (⟨#[32]⟩:ByteArray)] 50)).heap[(w.alloc (.cells #[.int .u64 b0,.bool s0,.int .u64 b1,.bool s1,.int .u64 b2,.bool s2,.int .u64 b3,.bool s3,.int .u64 b4,.bool s4] 31)).heap.size]?=some (.cells #[.pointer none,.slice none 0 0,.string (⟨#[32]⟩:ByteArray)] 50 (0,0))∧(w.alloc (.cells #[.int .u64 b0,.bool s0,.int .u64 b1,.bool s1,.int .u64 b2,.bool s2,.int .u64 b3,.bool s3,.int .u64 b4,.bool s4] 31)).heap.size=w.heap.size+1∧((w.alloc (.cells #[.int .u64 b0,.bool s0,.int .u64 b1,.bool s1,.int .u64 b2,.bool s2,.int .u64 b3,.bool s3,.int .u64 b4,.bool s4] 31)).alloc (.cells #[.pointer none,.slice none 0 0,.string (⟨#[32]⟩:ByteArray)] 50)).heap.size=w.heap.size+2 from ⟨heap_alloc_new _ _,by simp,by simp⟩)
 replace hC:=Lib.hid hC
 replace hG:=Lib.hid hG
 replace hF:=Lib.hid hF
 replace hne:=Lib.hid hne
 have hal:=Lib.hid (Shw.accB_le T hT4)
 replace hT4:=Lib.hid hT4
 obtain ⟨k0,k1,k2,k3,k4,k5,k6,k7,k8,k9⟩ :=HW.out.1.cells
 go_enter Tryz.func12,Tryz.ntmps12
 go_wp2_with fail
 refine wp_scope_straight ?_
 go_wp2_with fail
 refine (spec_Check.calls _ _ _ _ _ _ _ _ _ _ n 0 _ hC.out).mono ?_
 rintro e1 w2 ⟨rfl,hb2⟩
 obtain ⟨tb,htb⟩:∃ tb,tb=w.heap.size+1:=⟨_,rfl⟩
 have H2:=Aside0.mk (show Spc.Row w2 w.heap.size b0 s0 b1 s1 b2 s2 b3 s3 b4 s4∧Below w.heap.size w w2∧w2.heap[tb]?=some (.cells #[.pointer none,.slice none 0 0,.string (⟨#[32]⟩:ByteArray)] 50 (0,0))∧w.heap.size < tb from ⟨blk_below HW.out.1 hb2,below_step HW.out.2 hb2,by rw [htb,← HT.out.2.1]; exact blk_below HT.out.1 hb2,by omega⟩)
 have hsz:=HT.out.2.1
 clear k0 k1 k2 k3 k4 k5 k6 k7 k8 k9 HW hb2 HT
 simp only [hsz,← htb] at *
 clear htb hsz
 obtain ⟨B,hB⟩:∃ B,w2.heap.size=B:=⟨_,rfl⟩
 have h0:=Aside0.mk (show Shw.Is B tb (⟨#[32]⟩:ByteArray) (Lib.strCells (Shw.accB T 0)) w2∧Shw.Fw B tb w2 w2 from ⟨.inl ⟨.slice none 0 0,H2.out.2.2.1,⟨by simp [Lib.strCells,Shw.accB],.inl ⟨rfl,by simp [Lib.strCells,Shw.accB]⟩⟩,by simp [Value.ownBlock]⟩,Shw.Fw.refl _ _ _⟩)
 have hfix:=Aside0.mk (show w.heap.size < B∧w.heap.size < tb∧B≤w2.heap.size∧Below w.heap.size w w2∧Spc.Row w2 w.heap.size b0 s0 b1 s1 b2 s2 b3 s3 b4 s4 from ⟨by rw [← hB]; exact blk_lt H2.out.1,H2.out.2.2.2,by omega,H2.out.2.1,H2.out.1⟩)
 clear H2 hB
 go_wp2_with fail
 go_loopw [21] (fun q wr=>∃ k:Nat,q=.int .i64 (k:Int)∧Hid (k≤5)∧Aside0 (Shw.Is B tb (⟨#[32]⟩:ByteArray) (Lib.strCells (Shw.accB T k)) wr∧Shw.Fw B tb w2 wr)) (fun q _=>(5 - intOf q).toNat)
 case atStart=>exact ⟨0,rfl,Lib.hid (by decide),h0⟩
 case round=>
  clear h0
  obtain ⟨k,rfl,hk5,hS⟩ :=hrel
  by_cases hk:k < 5
  ·have d1:decide ((k:Int) < 5)=true:=decide_eq_true (by omega)
   have hkb:(k:Int)≤4:=by omega
   have hrow:Spc.Row wr w.heap.size b0 s0 b1 s1 b2 s2 b3 s3 b4 s4:=(hS.out.2.block _ hfix.out.1 (by have:=hfix.out.2.1; omega)).trans hfix.out.2.2.2.2
   obtain ⟨k0,k1,k2,k3,k4,k5,k6,k7,k8,k9⟩ :=hrow.cells
   have hg:=Lib.hid (hG.out k hk)
   have hf:=Lib.hid (hF.out k hk)
   have hnx:Hid (k+1≤5):=Lib.hid hk
   have hsz:Hid ((Shw.accB T k).size+(⟨#[32]⟩:ByteArray).size+(T k).size≤1000000):=Lib.hid (by have:=hal.out k; have:=hT4.out k; have:(⟨#[32]⟩:ByteArray).size=1:=rfl; omega)
   obtain ⟨fb,hfb⟩:∃ fb,(F k).1=fb:=⟨_,rfl⟩
   obtain ⟨fs,hfs⟩:∃ fs,(F k).2=fs:=⟨_,rfl⟩
   rw [hfb,hfs] at hg hf
   replace hk:=Lib.hid hk
   clear hfb hfs hrow
   go_wp2_with fail
   refine (spec_Get.calls _ _ _ _ _ _ _ _ _ _ (k:Int) fb fs 0 _ hg.out).mono ?_
   rintro e1 W3 ⟨rfl,hb3⟩
   replace hS:=Shw.si_step hS hb3 hfix.out.2.2.1
   clear k0 k1 k2 k3 k4 k5 k6 k7 k8 k9 hb3 hg
   go_wp2_with fail
   replace hS:=Shw.si_step hS (below_alloc (Below.refl _ _) (.cells #[.int .u64 fb,.bool fs] 24)) hfix.out.2.2.1
   have hT3:=hT.keep (hfix.out.2.2.2.1.trans (hS.out.2.below (Nat.le_of_lt hfix.out.1) (Nat.le_of_lt hfix.out.2.1)))
   generalize W3.alloc (.cells #[.int .u64 fb,.bool fs] 24)=W4 at hS hT3 ⊢
   refine (show_Field.calls fb fs (k:Int) (T k) 0 W4 hT3 hf.out).mono ?_
   rintro e1 W5 ⟨rfl,hb5⟩
   replace hS:=Shw.si_step hS hb5 hfix.out.2.2.1
   clear hb5 hT3 hf
   go_wp2_with fail
   refine (Shw.piece_calls B tb (⟨#[32]⟩:ByteArray) (Shw.accB T k) (T k) W5 hS.out.1 hsz.out (by have:=hS.out.2.size; have:=hfix.out.2.2.1; omega)).mono ?_
   rintro e1 W6 ⟨rfl,hI6,hF6⟩
   have hS6:=Aside0.mk (show Shw.Is B tb (⟨#[32]⟩:ByteArray) (Lib.strCells (Shw.accB T (k+1))) W6∧Shw.Fw B tb w2 W6 from ⟨hI6,hS.out.2.trans hF6.w⟩)
   clear hI6 hF6 hS
   go_wp2_with fail
   go_roundw
   case rel=>exact ⟨k+1,rfl,hnx,hS6⟩
   case measure=>have:=hk.out; simp only [intOf]; omega
  ·have d1:decide ((k:Int) < 5)=false:=decide_eq_false (by omega)
   obtain rfl:k=5:=by have:=hk5.out; omega
   have hS2:=Aside0.mk (show Shw.Is B tb (⟨#[32]⟩:ByteArray) (Lib.byteCells (Shw.accB T 5).data.toList) wr from hS.out.1)
   have hBW:=Aside0.mk (hfix.out.2.2.2.1.trans (hS.out.2.below (Nat.le_of_lt hfix.out.1) (Nat.le_of_lt hfix.out.2.1)))
   go_wp2_with fail
   refine (Shw.string_calls B tb _ _ wr hS2.out (fun e=>hne.out ?ne)).mono ?_
   case ne=>
    have:(Shw.accB T 5).data=#[]:=by rw [← Array.toList_eq_nil_iff]; exact e
    show (Shw.accB T 5).data.size=0
    rw [this]; rfl
   rintro e1 W2 ⟨rfl,hb2,ho2⟩
   go_wp2_with fail
   have e2:(⟨(Shw.accB T 5).data.toList.toArray⟩:ByteArray)=Shw.accB T 5:=by simp
   rw [e2]
   refine ⟨rfl,_,results_tmp3 Tryz.results12 _ _ _,rfl,?_⟩
   exact hBW.out.trans ⟨hb2.os,hb2.tape,hb2.output,hb2.size,fun k hk=>hb2.block k (by have:=hfix.out.1; omega)⟩
end
theorem Shw.fieldF_val {b:Int}{s:Bool}{k:Int}{t:ByteArray × Int}(h:Shw.fieldF b s k=some t)(c:field_Check.f b s k=some 0):Shw.InU b∧t=(Shw.ftext b s,0):=by
 unfold Shw.fieldF at h
 by_cases hb:0≤b∧b < 18446744073709551616
 ·rw [if_pos hb,c,Option.bind_some,if_neg (by decide)] at h
  exact ⟨hb,(Option.some.inj h).symm⟩
 ·rw [if_neg hb] at h
  cases h
def Shw.pick (b0:Int)(s0:Bool)(b1:Int)(s1:Bool)(b2:Int)(s2:Bool)(b3:Int)(s3:Bool)(b4:Int)(s4:Bool):Nat→Int × Bool
 | 0=>(b0,s0)
 | 1=>(b1,s1)
 | 2=>(b2,s2)
 | 3=>(b3,s3)
 | _=>(b4,s4)
def show_Spec.f (a0_0:Int)(a0_1:Bool)(a0_2:Int)(a0_3:Bool)(a0_4:Int)(a0_5:Bool)(a0_6:Int)(a0_7:Bool)(a0_8:Int)(a0_9:Bool):Option (ByteArray × Int × Int):=Shw.specF a0_0 a0_1 a0_2 a0_3 a0_4 a0_5 a0_6 a0_7 a0_8 a0_9
set_option maxHeartbeats 8000000 in
set_option maxRecDepth 100000 in
theorem show_Spec.calls (a0_0:Int)(a0_1:Bool)(a0_2:Int)(a0_3:Bool)(a0_4:Int)(a0_5:Bool)(a0_6:Int)(a0_7:Bool)(a0_8:Int)(a0_9:Bool)(r1:ByteArray)(r2:Int)(r3:Int)(w:World)(hT:Tab w)(h:show_Spec.f a0_0 a0_1 a0_2 a0_3 a0_4 a0_5 a0_6 a0_7 a0_8 a0_9=some (r1,r2,r3)) :
  Calls Tryz.prog 12 #[.agg #[.int .u64 a0_0,.bool a0_1,.int .u64 a0_2,.bool a0_3,.int .u64 a0_4,.bool a0_5,.int .u64 a0_6,.bool a0_7,.int .u64 a0_8,.bool a0_9]] w fun e w'=>e=.returned (.tuple #[.string r1,.int .i64 r2,.int .i64 r3])∧Below w.heap.size w w':=by
 have HB:=Aside0.mk (Below.refl w.heap.size w)
 have hh:Shw.specF a0_0 a0_1 a0_2 a0_3 a0_4 a0_5 a0_6 a0_7 a0_8 a0_9=some (r1,r2,r3):=h
 clear h
 unfold Shw.specF at hh
 obtain ⟨⟨n,e⟩,hC,hh⟩ :=Option.bind_eq_some_iff.1 hh
 dsimp only at hh
 by_cases he:e=0
 ·subst he
  rw [if_neg (by decide)] at hh
  rcases Shw.check_cases _ _ _ _ _ _ _ _ _ _ _ _ hC with ⟨q,_⟩ | ⟨_,rfl,c0,c1,c2,c3,c4⟩
  ·exact absurd rfl q
  obtain ⟨t0,f0,hh⟩ :=Option.bind_eq_some_iff.1 hh
  obtain ⟨t1,f1,hh⟩ :=Option.bind_eq_some_iff.1 hh
  obtain ⟨t2,f2,hh⟩ :=Option.bind_eq_some_iff.1 hh
  obtain ⟨t3,f3,hh⟩ :=Option.bind_eq_some_iff.1 hh
  obtain ⟨t4,f4,hh⟩ :=Option.bind_eq_some_iff.1 hh
  obtain ⟨u0,rfl⟩ :=Shw.fieldF_val f0 c0
  obtain ⟨u1,rfl⟩ :=Shw.fieldF_val f1 c1
  obtain ⟨u2,rfl⟩ :=Shw.fieldF_val f2 c2
  obtain ⟨u3,rfl⟩ :=Shw.fieldF_val f3 c3
  obtain ⟨u4,rfl⟩ :=Shw.fieldF_val f4 c4
  have hh2:=Option.some.inj hh
  clear hh
  injection hh2 with g1 g2
  injection g2 with g2 g3
  subst g1
  subst g2
  subst g3
  refine Shw.spec_good a0_0 a0_1 a0_2 a0_3 a0_4 a0_5 a0_6 a0_7 a0_8 a0_9 0 hC (Shw.pick a0_0 a0_1 a0_2 a0_3 a0_4 a0_5 a0_6 a0_7 a0_8 a0_9) ?_ (fun k=>Shw.ftext (Shw.pick a0_0 a0_1 a0_2 a0_3 a0_4 a0_5 a0_6 a0_7 a0_8 a0_9 k).1 (Shw.pick a0_0 a0_1 a0_2 a0_3 a0_4 a0_5 a0_6 a0_7 a0_8 a0_9 k).2) ?_ (fun k=>Shw.ftext_le _ _) ?_ w hT
  ·intro k hk
   unfold spec_Get.f
   match k,hk with
   | 0,_=>rfl
   | 1,_=>rfl
   | 2,_=>rfl
   | 3,_=>rfl
   | 4,_=>rfl
  ·intro k hk
   match k,hk with
   | 0,_=>exact f0
   | 1,_=>exact f1
   | 2,_=>exact f2
   | 3,_=>exact f3
   | 4,_=>exact f4
  ·exact Shw.addB_ne _ _ (Shw.ftext_ne a0_8 a0_9 u4 (Shw.check_ne c4))
 ·rw [if_pos he] at hh
  have hh2:=Option.some.inj hh
  clear hh
  injection hh2 with g1 g2
  injection g2 with g2 g3
  subst g1
  subst g2
  subst g3
  exact Shw.spec_bad a0_0 a0_1 a0_2 a0_3 a0_4 a0_5 a0_6 a0_7 a0_8 a0_9 n e hC he w
def lex_sign_digit.f (a0:Int):Option (Bool):=if a0≥48 then (some (decide (a0≤57))) else (some false)
set_option maxHeartbeats 8000000 in
set_option maxRecDepth 100000 in
theorem lex_sign_digit.calls (a0:Int)(r:Bool)(w:World)(h:lex_sign_digit.f a0=some r) :
  Calls Tryz.prog 92 #[.int .i32 a0] w fun e w'=>e=.returned (.bool r)∧Drawn0 w w':=by
 have H:(if a0≥48 then (some (decide (a0≤57))) else (some false))=some r:=h
 clear h
 by_cases c2:a0≥48
 ·rw [if_pos c2] at H
  have c2b0:decide (48≤a0)=true:=decide_eq_true c2
  clear c2
  obtain rfl:=Option.some.inj H
  go_enter Tryz.func92,Tryz.ntmps92
  go_wp2
  go_ret
  exact ⟨by first | rfl | (simp; done) | (simp [*]; done),by repeat (first | exact Drawn0.refl _ | apply Drawn0.step)⟩
 ·rw [if_neg c2] at H
  have c2b0:decide (48≤a0)=false:=decide_eq_false c2
  clear c2
  obtain rfl:=Option.some.inj H
  go_enter Tryz.func92,Tryz.ntmps92
  go_wp2
  go_ret
  exact ⟨by first | rfl | (simp; done) | (simp [*]; done),by repeat (first | exact Drawn0.refl _ | apply Drawn0.step)⟩
/-! This session's own: words for the walks of lex. -/
/-- What a string's byte says of the rune that begins there. -/
theorem Lex.rune_at (s:ByteArray)(pos:Nat)(h:pos < s.size) :
  ((s[pos]'h).toNat < 128∧Utf8.decode s pos=((s[pos]'h).toNat,1))∨(128≤(s[pos]'h).toNat∧128≤(Utf8.decode s pos).1):=by
 by_cases ha:(s[pos]'h).toNat < 128
 ·exact .inl ⟨ha,decode_ascii s pos h ha⟩
 ·refine .inr ⟨by omega,?_⟩
  have hb:(s.get! (pos+0)).toNat=(s[pos]'h).toNat:=by
   have e:s.get! pos=s[pos]'h:=by
    show s.data[pos]! = s.data[pos]'h
    exact getElem!_pos s.data pos h
   rw [Nat.add_zero,e]
  unfold Utf8.decode
  simp only [hb]
  rw [if_neg (by omega)]
  repeat' split
  all_goals first | decide | (simp only [Bool.and_eq_true,decide_eq_true_eq] at *; omega)
theorem Lex.below_it {w W:World}{B k:Nat}(h:Below B w W)(hk:B≤k)(s:ByteArray)(pos:Nat):Below B w (W.iterAt k s pos):=Lib.below_iterAt h hk s pos
theorem Lex.ret2 {x:Int × Int}{a b:Int}(h:x=(a,b)):Ending.returned (.tuple #[.int .i64 a,.int .i64 b])=.returned (.tuple #[.int .i64 x.1,.int .i64 x.2]):=by rw [h]
theorem Lex.ret2' {x:Int × Int}{a b a' b':Int}(ha:a'=a)(hb:b'=b)(h:x=(a,b)):Ending.returned (.tuple #[.int .i64 a',.int .i64 b'])=.returned (.tuple #[.int .i64 x.1,.int .i64 x.2]):=by rw [h,ha,hb]
theorem Lex.behind {w W w':World}(hb:Below W.heap.size W w')(hs:w.heap.size≤W.heap.size)(h:Below w.heap.size w W):Below w.heap.size w w':=h.trans (hb.mono hs)
theorem Lex.slice_run (nm:ByteArray)(pos:Nat)(h:pos+3≤nm.size)(W:World):(Instr.slice 9 (.string nm) (some (.int .i64 (pos:Int))) (some (.int .i64 ((pos:Int)+3))) none).run Tryz.prog W=.ok (.string (nm.extract pos (pos+3))) W:=by
 have m4:(pos:Int)+3≤(nm.size:Int):=by omega
 have m5:((pos:Int)+3).toNat=pos+3:=by omega
 have m6:0≤(pos:Int)+3:=by omega
 have hu:=run_underlying Tryz.underlying9
 simp [Instr.slice,Instr.sliceBounds,Instr.sliceBound,hu,go_sem,m4,m5,m6]
theorem Lex.index0 (s:ByteArray)(h:0 < s.size)(W:World):(Instr.index 9 (.string s) (.int .i64 0)).run Tryz.prog W=.ok (.int .u8 (bt s 0)) W:=by
 have hu:=run_underlying Tryz.underlying9
 have e:s[0]?=some (s[0]'h):=getElem?_pos s 0 h
 have hb:=bt_at s 0 (by simpa using h)
 simp only [Int.toNat_zero] at hb
 simp [Instr.index,hu,go_sem,e,hb]
theorem Lex.empty_yes {s:ByteArray}(h:s.size=0):s.toList.isEmpty=true:=by
 rw [ByteArray.toList_eq]
 have:s.data.toList.length=s.size:=by rw [Array.length_toList]; rfl
 cases hl:s.data.toList with
 | nil=>rfl
 | cons _ _=>rw [hl,h] at this; simp at this
theorem Lex.empty_no {s:ByteArray}(h:¬ s.size=0):s.toList.isEmpty=false:=by
  rw [ByteArray.toList_eq]
  cases hl:s.data.toList with
  | nil => have : s.data.toList.length = s.size := by rw [Array.length_toList]; rfl
           rw [hl] at this; exact absurd this.symm h
  | cons _ _=>rfl
theorem Lex.digit_f (c:Int):lex_sign_digit.f c=some (decide (48≤c) && decide (c≤57)):=by
 unfold lex_sign_digit.f
 by_cases h:c≥48
 ·rw [if_pos h,decide_eq_true h]; rfl
 ·rw [if_neg h,decide_eq_false h]; rfl
/-! This session's own: lex.Number, by its own pure function. -/
def Lex.dig (b:UInt8):Bool:=decide (48≤b.toNat) && decide (b.toNat≤57)
def Lex.digs:List UInt8→Int→Option Int
 | [],n=>some n
 | c :: l,n=>if Lex.dig c then Lex.digs l (10*n+c.toNat - 48) else none
def Lex.number (s:ByteArray):Int × Int:=
 if s.size=0∨4 < s.size then (0,2) else match Lex.digs s.data.toList 0 with
  | some n=>(n,0)
  | none=>(0,2)
def Lex.top:Nat→Int | 0=>0 | 1=>9 | 2=>99 | 3=>999 | _=>9999
theorem Lex.drop_at (s:ByteArray)(pos:Nat)(h:pos < s.size):s.data.toList.drop pos=(s[pos]'h) :: s.data.toList.drop (pos+1):=by
 rw [List.drop_eq_getElem_cons (by simpa using h)]; rfl
set_option maxHeartbeats 8000000 in
set_option maxRecDepth 100000 in
theorem number_calls (s : ByteArray) (w : World) (h1 : ¬ s.size = 0) (h2 : s.size ≤ 4) :
    Calls Tryz.prog 64 #[.string s] w fun e w'=>e=.returned (.tuple #[.int .i64 (Lex.number s).1,.int .i64 (Lex.number s).2])∧Below w.heap.size w w':=by
  have hN:Hid (Lex.number s=match Lex.digs s.data.toList 0 with | some n=>(n,0) | none=>(0,2)):=Lib.hid (by unfold Lex.number; rw [if_neg (by omega)])
  have e0:s.toList.isEmpty=false:=by
    rw [ByteArray.toList_eq]
    cases hl:s.data.toList with
    | nil => have : s.data.toList.length = s.size := by rw [Array.length_toList]; rfl
             rw [hl] at this; exact absurd this.symm h1
    | cons _ _=>rfl
  have e1:(s.toList == ([]:List UInt8))=false:=by
    cases hl:s.toList with
    | nil=>rw [hl] at e0; exact absurd e0 (by simp)
    | cons _ _=>rfl
  have e2:decide (4 < (s.size:Int))=false:=decide_eq_false (by omega)
  have e3:decide (4 < s.size)=false:=decide_eq_false (by omega)
  go_enter Tryz.func64,Tryz.ntmps64
  go_wp2
  go_loopg [4] s.size (fun gf n wr => ∃ (pos : Nat) (z : Int), n = .int .i64 z ∧ pos + gf = s.size ∧ 0 ≤ z ∧ Hid (z ≤ Lex.top pos) ∧ Hid (Lex.digs (s.data.toList.drop pos) z = Lex.digs s.data.toList 0) ∧
      wr.heap[w.heap.size]?=some (.stringIter s pos)∧Below w.heap.size w wr)
  case atStart=>
    exact ⟨0,0,rfl,by omega,by omega,Lib.hid (by decide),Lib.hid rfl,World.iter_heap w s 0,(Below.refl _ _).alloc (Nat.le_refl _) _⟩
  case round=>
    obtain ⟨pos,z,rfl,hg,hz0,hz1,hD,hit,hb⟩ :=hrel
    by_cases hlt:pos < s.size
    · obtain ⟨g',rfl⟩:∃ g',gk=g'+1:=⟨gk - 1,by omega⟩
      have hnx:∀ ty,(Instr.next (.pointer (some ⟨w.heap.size,0,none⟩)) true ty).run Tryz.prog wr=_:=fun ty=>Lib.run_next_any_at wr w.heap.size s pos ty hit hlt
      have hr:=Lex.rune_at s pos hlt
      have hstep:Lex.digs (s.data.toList.drop pos) z=if Lex.dig (s[pos]'hlt) then Lex.digs (s.data.toList.drop (pos+1)) (10*z+(s[pos]'hlt).toNat - 48) else none:=by
        rw [Lex.drop_at s pos hlt]; rfl
      have hd:=hD.out
      rw [hstep] at hd
      replace hd:=Lib.hid hd
      clear hstep hD
      have hzb:z≤999∧10*Lex.top pos+9≤Lex.top (pos+1):=by
        have:=hz1.out
        have h4:pos=0∨pos=1∨pos=2∨pos=3:=by omega
        rcases h4 with rfl | rfl | rfl | rfl <;> (simp only [Lex.top] at *; omega)
      have hzt:=Lib.hid hzb.2
      have hzb:=hzb.1
      by_cases hdg:Lex.dig (s[pos]'hlt)=true
      · have hdb:48≤(s[pos]'hlt).toNat∧(s[pos]'hlt).toNat≤57:=by simpa [Lex.dig] using hdg
        obtain ⟨B,hB⟩:∃ B,(s[pos]'hlt).toNat=B:=⟨_,rfl⟩
        have hr2:Utf8.decode s pos=(B,1):=by
          rcases hr with ⟨_,h⟩ | ⟨h,_⟩
          · rw [h,hB]
          · omega
        rw [hr2] at hnx
        rw [hB] at hdb
        have hd2:=hd.out
        rw [if_pos hdg,hB] at hd2
        have hd:=Lib.hid hd2
        clear hd2 hr hr2
        have hcall:=Lib.hid (show lex_sign_digit.f (B:Int)=some true by rw [Lex.digit_f,decide_eq_true (by omega),decide_eq_true (by omega)]; rfl)
        have hit2:=Lib.iterAt_heap wr w.heap.size s pos (pos+1) hit
        have hb2:=Lex.below_it hb (k:=w.heap.size) (Nat.le_refl _) s (pos+1)
        replace hB:=Lib.hid hB
        obtain ⟨W,hW⟩:∃ W,wr.iterAt w.heap.size s (pos+1)=W:=⟨_,rfl⟩
        rw [hW] at hnx hit2 hb2
        replace hW:=Lib.hid hW
        clear hit hb
        go_wp2_with (go_at_call 92; refine (lex_sign_digit.calls _ _ _ hcall.out).mono ?_; rintro e w' ⟨rfl,⟨nd,rfl⟩⟩)
        go_roundg g'
        case measure=>omega
        case rel=>
          refine ⟨pos+1,10*z+B - 48,by first | rfl | (congr 1; omega),by omega,by omega,Lib.hid ?_,hd,hit2,pw_below_drewN hb2 _⟩
          have:=hz1.out; have:=hzt.out; omega
      · have hdn:Lex.dig (s[pos]'hlt)=false:=by simpa using hdg
        have hd2:=hd.out
        rw [hdn,if_neg (by simp)] at hd2
        have hv:Lex.number s=(0,2):=by rw [hN.out,← hd2]
        replace hv:=Lib.hid hv
        have hcall:Hid (lex_sign_digit.f ((Utf8.decode s pos).1:Int)=some false):=by
          refine Lib.hid ?_
          rw [Lex.digit_f]
          rcases hr with ⟨hl,h⟩ | ⟨h,h'⟩
          · rw [h]
            simp only [Lex.dig,Bool.and_eq_false_iff,decide_eq_false_iff_not] at hdn
            congr 1
            simp only [Bool.and_eq_false_iff,decide_eq_false_iff_not]
            omega
          · congr 1
            simp only [Bool.and_eq_false_iff,decide_eq_false_iff_not]
            omega
        have hb2:=Lex.below_it hb (k:=w.heap.size) (Nat.le_refl _) s (pos+(Utf8.decode s pos).2)
        obtain ⟨R,hR⟩:∃ R,(Utf8.decode s pos).1=R:=⟨_,rfl⟩
        obtain ⟨K,hK⟩:∃ K,(Utf8.decode s pos).2=K:=⟨_,rfl⟩
        obtain ⟨W,hW⟩:∃ W,wr.iterAt w.heap.size s (pos+K)=W:=⟨_,rfl⟩
        rw [hR,hK,hW] at hnx
        rw [hK,hW] at hb2
        rw [hR] at hcall
        replace hW:=Lib.hid hW; replace hR:=Lib.hid hR; replace hK:=Lib.hid hK
        clear hit hb hd hd2 hr hdn hdg
        go_wp2_with (go_at_call 92; refine (lex_sign_digit.calls _ _ _ hcall.out).mono ?_; rintro e w' ⟨rfl,⟨nd,rfl⟩⟩)
        go_ret2
        exact ⟨Lex.ret2 hv.out,pw_below_drewN hb2 _⟩
    · have hpos:pos=s.size:=by omega
      have hnx:∀ ty,(Instr.next (.pointer (some ⟨w.heap.size,0,none⟩)) true ty).run Tryz.prog wr=_:=fun ty=>Lib.run_next_end_at wr w.heap.size s pos ty hit hlt
      have hd2:=hD.out
      rw [hpos,List.drop_of_length_le (by simp)] at hd2
      have hv:Lex.number s=(z,0):=by
        have:=hN.out
        rw [← hd2] at this
        exact this
      replace hv:=Lib.hid hv
      clear hd2 hD
      replace hpos:=Lib.hid hpos
      go_wp2
      go_ret2
      exact ⟨Lex.ret2 hv.out,hb⟩
def lex_Number.f (a0:ByteArray):Option (Int × Int):=some (Lex.number a0)
set_option maxHeartbeats 8000000 in
set_option maxRecDepth 100000 in
theorem lex_Number.calls (a0:ByteArray)(r1:Int)(r2:Int)(w:World)(h:lex_Number.f a0=some (r1,r2)) :
  Calls Tryz.prog 64 #[.string a0] w fun e w'=>e=.returned (.tuple #[.int .i64 r1,.int .i64 r2])∧Below w.heap.size w w':=by
 obtain ⟨rfl,rfl⟩:r1=(Lex.number a0).1∧r2=(Lex.number a0).2:=by have:=Option.some.inj h; rw [this]; exact ⟨rfl,rfl⟩
 clear h
 by_cases h0:a0.size=0
 ·have hv:Hid (Lex.number a0=(0,2)):=Lib.hid (by unfold Lex.number; rw [if_pos (.inl h0)])
  have e0:=Lex.empty_yes h0
  have e1:(a0.toList == ([]:List UInt8))=true:=by simpa using e0
  replace h0:=Lib.hid h0
  go_enter Tryz.func64,Tryz.ntmps64
  go_wp2
  go_ret2
  exact ⟨Lex.ret2 hv.out,Below.refl _ _⟩
 by_cases h4:4 < a0.size
 ·have hv:Hid (Lex.number a0=(0,2)):=Lib.hid (by unfold Lex.number; rw [if_pos (.inr h4)])
  have e0:=Lex.empty_no h0
  have e1:(a0.toList == ([]:List UInt8))=false:=by simpa using e0
  have e2:decide (4 < (a0.size:Int))=true:=decide_eq_true (by omega)
  have e3:decide (4 < a0.size)=true:=decide_eq_true h4
  replace h0:=Lib.hid h0
  replace h4:=Lib.hid h4
  go_enter Tryz.func64,Tryz.ntmps64
  go_wp2
  go_ret2
  exact ⟨Lex.ret2 hv.out,Below.refl _ _⟩
 exact number_calls a0 w h0 (by omega)
/-! This session's own: lex.Name. -/
def Lex.lowI (c:Int):Int:=if 65≤c∧c≤90 then c+32 else c
def Lex.srch (p:Nat→Bool):Nat→Nat→Nat
 | 0,i=>i
 | k+1,i=>if p i then i else Lex.srch p k (i+1)
theorem Lex.srch_eq (p:Nat→Bool)(n:Nat):∀ (k i r:Nat),i≤r→r≤n→k+i=n→(∀ x,i≤x→x < r→p x=false)→(r < n→p r=true)→Lex.srch p k i=r
 | 0,i,r,h1,h2,h3,_,_=>by simp only [Lex.srch]; omega
 | k+1,i,r,h1,h2,h3,hf,ht=>by
  simp only [Lex.srch]
  by_cases e:i=r
  ·subst e; rw [if_pos (ht (by omega))]
  ·rw [hf i (by omega) (by omega)]
   exact Lex.srch_eq p n k (i+1) r (by omega) h2 (by omega) (fun x h=>hf x (by omega)) ht
/-- A text's bytes, as numbers; without capitals; a text of them. -/
def Lex.lowS (s:ByteArray):ByteArray:=strOfNums ((bytesOf s).map Lex.lowI)
def Lex.hit (nm low:ByteArray)(j:Nat):Bool:=(nm.extract (3*j) (3*j+3)).toList == low.toList
def Lex.look (nm:ByteArray)(n:Nat)(first:Int)(low:ByteArray):Int × Int:=
 if Lex.srch (Lex.hit nm low) n 0 < n then ((Lex.srch (Lex.hit nm low) n 0:Int)+first,0) else (0,2)
def Lex.months:ByteArray:=⟨#[106,97,110,102,101,98,109,97,114,97,112,114,109,97,121,106,117,110,106,117,108,97,117,103,115,101,112,111,99,116,110,111,118,100,101,99]⟩
def Lex.days:ByteArray:=⟨#[115,117,110,109,111,110,116,117,101,119,101,100,116,104,117,102,114,105,115,97,116]⟩
def Lex.namesOf (kind:Int):ByteArray × Nat × Int:=if kind=3 then (Lex.months,12,1) else if kind=4 then (Lex.days,7,0) else (⟨#[]⟩,0,0)
def Lex.name (s:ByteArray)(kind:Int):Int × Int:=
 if s.size≠3 then (0,2) else Lex.look (Lex.namesOf kind).1 (Lex.namesOf kind).2.1 (Lex.namesOf kind).2.2 (Lex.lowS s)
/-- Names of three plain letters each. -/
def Lex.plain (nm:ByteArray)(n:Nat)(first:Int):Prop:=nm.size=3*n∧n≤12∧0≤first∧first≤1∧∀ i (h:i < nm.size),(nm[i]'h).toNat < 128
theorem Lex.plain_of (kind:Int):Lex.plain (Lex.namesOf kind).1 (Lex.namesOf kind).2.1 (Lex.namesOf kind).2.2:=by
 unfold Lex.namesOf
 split
 ·exact ⟨by decide,by decide,by decide,by decide,by decide +kernel⟩
 ·split
  ·exact ⟨by decide,by decide,by decide,by decide,by decide +kernel⟩
  ·exact ⟨by decide,by decide,by decide,by decide,by intro i h; exact absurd h (by simp [ByteArray.size])⟩
def Lex.Cells (l:List Int)(k B:Nat)(w:World):Prop:=∀ j,j < 3→w.cell? ⟨B,j,none⟩=some (.int .u8 (if j < k then Lex.lowI (l.getD j 0) else l.getD j 0))∧w.frozen? ⟨B,j,none⟩=false
theorem Lex.Cells.at' {l:List Int}{k B:Nat}{w:World}(h:Lex.Cells l k B w)(j:Nat)(hj:j < 3):w.cell? ⟨B,j,none⟩=some (.int .u8 (if j < k then Lex.lowI (l.getD j 0) else l.getD j 0))∧w.frozen? ⟨B,j,none⟩=false:=h j hj
theorem Lex.byte_bd (s:ByteArray)(k:Nat):0≤(bytesOf s).getD k 0∧(bytesOf s).getD k 0≤255:=by
 have h:=bt_range s (k:Int)
 rw [← rd_bytesOf] at h
 simpa [rd] using h
theorem Lex.cells_start (w:World)(s:ByteArray)(h:s.size=3):Lex.Cells (bytesOf s) 0 w.heap.size (Lib.bytesWorld w 5 s):=by
 intro j hj
 refine ⟨?_,?_⟩
 ·rw [if_neg (by omega),Lib.bytesWorld_cell w 5 s j (by omega)]
  have h':j < s.data.toList.length:=by rw [data_length]; omega
  simp [bytesOf,List.getD_eq_getElem?_getD,List.getElem?_eq_getElem h']
 ·simp only [World.frozen?,Lib.bytesWorld_at_new]
  have:3≤(Lib.bytesCells w 5 s).size:=by simp [Lib.bytesCells]; have:s.data.size=s.size:=rfl; omega
  simp
  omega
theorem Lex.cells_up {l:List Int}{k B:Nat}{w:World}{c v:Int}(h:Lex.Cells l k B w)(hk:k < 3)(hc:l.getD k 0=c)(hu:65≤c∧c≤90)(hv:v=c+32):Lex.Cells l (k+1) B (w.setCell ⟨B,k,none⟩ (.int .u8 v)):=by
 intro j hj
 refine ⟨?_,by simpa using (h j hj).2⟩
 by_cases e:j=k
 ·subst e
  rw [World.cell?_setCell_same' _ _ _ (by rw [(h j hj).1]; rfl),if_pos (by omega),hc,Lex.lowI,if_pos hu,hv]
 ·rw [World.cell?_setCell_other _ _ _ _ (by intro x; injection x; omega),(h j hj).1]
  by_cases e2:j < k
  ·rw [if_pos e2,if_pos (by omega)]
  ·rw [if_neg e2,if_neg (by omega)]
theorem Lex.cells_no {l:List Int}{k B:Nat}{w:World}{c:Int}(h:Lex.Cells l k B w)(hk:k < 3)(hc:l.getD k 0=c)(hu:¬ (65≤c∧c≤90)):Lex.Cells l (k+1) B w:=by
 intro j hj
 refine ⟨?_,(h j hj).2⟩
 rw [(h j hj).1]
 by_cases e:j=k
 ·subst e
  rw [if_neg (by omega),if_pos (by omega),hc,Lex.lowI,if_neg hu]
 ·by_cases e2:j < k
  ·rw [if_pos e2,if_pos (by omega)]
  ·rw [if_neg e2,if_neg (by omega)]
/-- The row of small letters. -/
def Lex.Low (l:List Int)(B:Nat)(w:World):Prop:=∀ j,j < 3→w.cell? ⟨B,0+j,none⟩=some (.int .u8 ((l.map Lex.lowI).getD j 0))
theorem Lex.low_of {l:List Int}{B:Nat}{w:World}(hl:l.length=3)(h:Lex.Cells l 3 B w):Lex.Low l B w:=by
 intro j hj
 rw [Nat.zero_add,(h j hj).1,if_pos hj]
 congr 2
 simp [List.getD_eq_getElem?_getD,List.getElem?_eq_getElem (show j < l.length by omega)]
theorem Lex.low_move {l:List Int}{B:Nat}{w w':World}(h:Lex.Low l B w)(hm:w'.heap[B]?=w.heap[B]?):Lex.Low l B w':=by
 intro j hj
 rw [← h j hj]
 exact World.cell?_of_block (w:=w) (a:=⟨B,0+j,none⟩) hm
theorem Lex.low_conv {s:ByteArray}{B cap:Nat}{w:World}(hs:s.size=3)(h:Lex.Low (bytesOf s) B w)(n:Nat) :
  (convert 46 9 (.slice (some ⟨B,0,none⟩) s.size cap)).run Tryz.prog (w.drewN n)=.ok (.string (Lex.lowS s)) (w.drewN n):=
 run_convert_bytes_arg (w.drewN n) 46 5 Tryz.underlying46 Tryz.underlying5 B 0 s.size cap ((bytesOf s).map Lex.lowI) (by rw [List.length_map,bytesOf_length]) (fun i hi=>h i (by omega)) 9 Tryz.underlying9
set_option maxHeartbeats 8000000 in
set_option maxRecDepth 100000 in
theorem name_calls (s:ByteArray)(kind:Int)(w:World)(h3:s.size=3) :
  Calls Tryz.prog 91 #[.string s,.int .i64 kind] w fun e w'=>e=.returned (.tuple #[.int .i64 (Lex.look (Lex.namesOf kind).1 (Lex.namesOf kind).2.1 (Lex.namesOf kind).2.2 (Lex.lowS s)).1,.int .i64 (Lex.look (Lex.namesOf kind).1 (Lex.namesOf kind).2.1 (Lex.namesOf kind).2.2 (Lex.lowS s)).2])∧Below w.heap.size w w':=by
 have hp:=Lex.plain_of kind
 obtain ⟨R,hR⟩:∃ R,Lex.look (Lex.namesOf kind).1 (Lex.namesOf kind).2.1 (Lex.namesOf kind).2.2 (Lex.lowS s)=R:=⟨_,rfl⟩
 rw [hR]
 replace hR:=Lib.hid hR
 replace hp:=Lib.hid hp
 have h3':=Lib.hid h3
 have e3:((s.size:Int) != 3)=false:=by simp [h3]
 have e3b:(s.size != 3)=false:=by simp [h3]
 clear h3
 have kb:=fun W=>print_bytes (P:=Tryz.prog) 9 46 5 Tryz.underlying9 Tryz.underlying46 Tryz.underlying5 s W
 go_enter Tryz.func91,Tryz.ntmps91
 go_upto_block 0 with (fail)
 go_cut [6,7] (fun v6 v7 wc=>∃ (nm:ByteArray) (n:Nat) (first:Int),v6=.string nm∧v7=.int .i64 first∧Hid (Lex.plain nm n first)∧Hid (Lex.look nm n first (Lex.lowS s)=R)∧wc=w)
 case first=>
  by_cases k3:kind=3
  ·subst k3
   go_wp2
   go_meet
   case rel=>exact ⟨_,12,1,rfl,rfl,hp,hR,rfl⟩
  ·by_cases k4:kind=4
   ·subst k4
    go_wp2
    go_meet
    case rel=>exact ⟨_,7,0,rfl,rfl,hp,hR,rfl⟩
   ·have hn:Lex.namesOf kind=(⟨#[]⟩,0,0):=by unfold Lex.namesOf; rw [if_neg k3,if_neg k4]
    have b3:(kind == 3)=false:=by simpa using k3
    have b4:(kind == 4)=false:=by simpa using k4
    have hp2:=hp.out
    have hR2:=hR.out
    rw [hn] at hp2 hR2
    replace hp2:=Lib.hid hp2
    replace hR2:=Lib.hid hR2
    clear hn k3 k4
    go_wp2
    go_meet
    case rel=>exact ⟨_,0,0,rfl,rfl,hp2,hR2,rfl⟩
 case rest=>
  clear hp hR
  obtain ⟨nm,n,first,rfl,rfl,hp,hR,rfl⟩ :=hcut
  go_wp2
  go_loopw [24] (fun i wr=>∃ k:Nat,k≤3∧i=.int .i64 (k:Int)∧Lex.Cells (bytesOf s) k wc.heap.size wr∧Below wc.heap.size wc wr) (fun i _=>3 - (intOf i).toNat)
  case atStart=>exact ⟨0,by omega,rfl,Lex.cells_start wc s h3'.out,bytes_below (Below.refl _ _) (Nat.le_refl _) 5 s⟩
  case round=>
   obtain ⟨k,hk,rfl,hC,hB⟩ :=hrel
   have hs3:=Lib.hid h3'.out
   have e23:((s.size:Nat):Int)=3:=by have:=h3'.out; omega
   by_cases hlt:k < 3
   ·obtain ⟨c,hc⟩:∃ c,(bytesOf s).getD k 0=c:=⟨_,rfl⟩
    have hcell:wr.cell? ⟨wc.heap.size,k,none⟩=some (.int .u8 c):=by have:=(hC.at' k hlt).1; rw [if_neg (by omega),hc] at this; exact this
    have hfz:wr.frozen? ⟨wc.heap.size,k,none⟩=false:=(hC.at' k hlt).2
    have hcb:0≤c∧c≤255:=by rw [← hc]; exact Lex.byte_bd s k
    obtain ⟨hc0,hc1⟩ :=hcb
    have hlt':(k:Int) < (s.size:Int):=by omega
    replace hc:=Lib.hid hc
    have hdn:=Lib.hid (fun hup=>Lex.cells_no hC hlt hc.out hup)
    by_cases hu1:65≤c
    ·by_cases hu2:c≤90
     ·go_wp2
      go_roundw
      case rel=>exact ⟨k+1,by omega,by go_num,Lex.cells_up hC hlt hc.out ⟨hu1,hu2⟩ (by omega),hB.setCell (by simp) _⟩
      case measure=>simp [intOf]; omega
     ·have hb2:=decide_eq_false hu2
      replace hu2:=Lib.hid hu2
      go_wp2
      go_roundw
      case rel=>exact ⟨k+1,by omega,by go_num,hdn.out (fun h=>hu2.out h.2),hB⟩
      case measure=>simp [intOf]; omega
    ·have hb1:=decide_eq_false hu1
     replace hu1:=Lib.hid hu1
     go_wp2
     go_roundw
     case rel=>exact ⟨k+1,by omega,by go_num,hdn.out (fun h=>hu1.out h.1),hB⟩
     case measure=>simp [intOf]; omega
   ·obtain rfl:k=3:=by omega
    go_wp2
    have hLow:=Lex.low_of (by rw [bytesOf_length]; exact hs3.out) hC
    have hlt3:wc.heap.size < wr.heap.size:=by
     have:=(hC 0 (by omega)).1
     exact World.block_lt_of_cell? wr _ this
    obtain ⟨W0,hW0⟩:∃ W0,wr.iter nm 0=W0:=⟨_,rfl⟩
    rw [hW0]
    have hit0:W0.heap[wr.heap.size]?=some (.stringIter nm 0):=by rw [← hW0]; exact World.iter_heap wr nm 0
    have hB0:Below wc.heap.size wc W0:=by rw [← hW0]; exact hB.alloc (by omega) _
    have hL0:Lex.Low (bytesOf s) wc.heap.size W0:=Lex.low_move hLow (by rw [← hW0]; exact Below.heap_alloc wr _ _ hlt3)
    replace hW0:=Lib.hid hW0
    obtain ⟨I,hI⟩:∃ I,wr.heap.size=I:=⟨_,rfl⟩
    rw [hI] at hit0 hlt3
    rw [hI]
    have hI':=Lib.hid hI
    clear hC hLow hB
    go_loopg [44] nm.size (fun gf _ wx=>∃ pos:Nat,pos+gf=nm.size∧Hid (∀ j,3*j < pos→Lex.hit nm (Lex.lowS s) j=false)∧wx.heap[I]?=some (.stringIter nm pos)∧Lex.Low (bytesOf s) wc.heap.size wx∧Below wc.heap.size wc wx)
    case atStart=>exact ⟨0,by omega,Lib.hid (by intro j hj; omega),hit0,hL0,hB0⟩
    case round=>
     obtain ⟨pos,hg,hno,hit,hL,hb⟩ :=hrel
     have hpl:=hp.out
     by_cases hlt:pos < nm.size
     ·obtain ⟨g',rfl⟩:∃ g',gk=g'+1:=⟨gk - 1,by omega⟩
      have hasc:(nm[pos]'hlt).toNat < 128:=hpl.2.2.2.2 pos hlt
      obtain ⟨b,hbv⟩:∃ b,(nm[pos]'hlt).toNat=b:=⟨_,rfl⟩
      have hnx:∀ ty,(Instr.next (.pointer (some ⟨I,0,none⟩)) true ty).run Tryz.prog wr=_:=fun ty=>Lib.run_next_ascii_at wr I nm pos ty hit hlt hasc
      rw [hbv] at hnx
      have hit2:=Lib.iterAt_heap wr I nm pos (pos+1) hit
      have hb2:=Lex.below_it hb (k:=I) (by omega) nm (pos+1)
      have hL2:Lex.Low (bytesOf s) wc.heap.size (wr.iterAt I nm (pos+1)):=Lex.low_move hL (Lib.iterAt_other wr I wc.heap.size nm (pos+1) (by omega))
      obtain ⟨W,hW⟩:∃ W,wr.iterAt I nm (pos+1)=W:=⟨_,rfl⟩
      rw [hW] at hnx hit2 hb2 hL2
      replace hW:=Lib.hid hW
      have hpb:(pos:Int)≤100:=by have:=hpl.1; have:=hpl.2.1; omega
      have hcv:=Lex.low_conv (cap:=grownCap wc s.size 0 5) hs3.out hL2
      have hfin:Hid (first≤1∧0≤first∧nm.size=3*n∧n≤12):=Lib.hid ⟨hpl.2.2.2.1,hpl.2.2.1,hpl.1,hpl.2.1⟩
      clear hit hb hL hasc hpl hI hW0 hit0 hB0 hL0
      replace hbv:=Lib.hid hbv
      by_cases hm:pos % 3=0
      ·obtain ⟨j,hj⟩:∃ j,pos=3*j:=⟨pos / 3,by omega⟩
       have hjn:Hid (j < n):=Lib.hid (by have:=hfin.out; omega)
       have m1:((pos:Int) % 3 == 0)=true:=by rw [beq_iff_eq]; omega
       have m2:(Int.tmod (pos:Int) 3 == 0)=true:=by rw [Int.tmod_eq_emod_of_nonneg (by omega)]; exact m1
       have m3:IntKind.i64.wrap ((pos:Int)+3)=(pos:Int)+3:=IntWalk.i64_in _ (by omega)
       have hsl:=Lex.slice_run nm pos (by have:=hfin.out; omega)
       have hx:((nm.extract pos (pos+3)).toList == (Lex.lowS s).toList)=Lex.hit nm (Lex.lowS s) j:=by unfold Lex.hit; rw [hj]
       replace hj:=Lib.hid hj
       cases hh:Lex.hit nm (Lex.lowS s) j
       ·rw [hh] at hx
        replace hh:=Lib.hid hh
        go_wp2
        go_quiet (fail)
        go_wp2
        go_roundg g'
        case measure=>omega
        case rel=>
         refine ⟨pos+1,by omega,Lib.hid ?_,hit2,Lex.low_move hL2 rfl,pw_below_drewN hb2 _⟩
         intro i hi
         by_cases e:i=j
         ·rw [e]; exact hh.out
         ·exact hno.out i (by have:=hj.out; omega)
       ·rw [hh] at hx
        replace hh:=Lib.hid hh
        have hv:R=((j:Int)+first,0):=by
         rw [← hR.out,Lex.look,Lex.srch_eq (Lex.hit nm (Lex.lowS s)) n n 0 j (by omega) (by have:=hjn.out; omega) (by omega) (fun x _ hx=>hno.out x (by have:=hj.out; omega)) (fun _=>hh.out),if_pos hjn.out]
        replace hv:=Lib.hid hv
        have q1:IntKind.i64.wrap ((pos:Int) / 3)=(pos:Int) / 3:=IntWalk.i64_in _ (by omega)
        have f1:first≤1:=hfin.out.1
        have f0:0≤first:=hfin.out.2.1
        go_wp2
        go_quiet (fail)
        go_wp2
        go_ret2
        exact ⟨Lex.ret2' (by have:=hj.out; omega) rfl hv.out,pw_below_drewN hb2 _⟩
      ·have m1:((pos:Int) % 3 == 0)=false:=by rw [beq_eq_false_iff_ne]; omega
       have m2:(Int.tmod (pos:Int) 3 == 0)=false:=by rw [Int.tmod_eq_emod_of_nonneg (by omega)]; exact m1
       replace hm:=Lib.hid hm
       go_wp2
       go_quiet (fail)
       go_wp2
       go_roundg g'
       case measure=>omega
       case rel=>
        refine ⟨pos+1,by omega,Lib.hid ?_,hit2,Lex.low_move hL2 rfl,pw_below_drewN hb2 _⟩
        intro i hi
        exact hno.out i (by have:=hm.out; omega)
     ·have hnx:∀ ty,(Instr.next (.pointer (some ⟨I,0,none⟩)) true ty).run Tryz.prog wr=_:=fun ty=>Lib.run_next_end_at wr I nm pos ty hit hlt
      have hv:R=(0,2):=by
       rw [← hR.out,Lex.look,Lex.srch_eq (Lex.hit nm (Lex.lowS s)) n n 0 n (by omega) (by omega) (by omega) (fun x _ hx=>hno.out x (by have:=hpl.1; omega)) (by omega),if_neg (by omega)]
      replace hv:=Lib.hid hv
      clear hpl hit hL
      go_wp2
      go_ret2
      exact ⟨Lex.ret2 hv.out,hb⟩
def lex_Name.f (a0:ByteArray)(a1:Int):Option (Int × Int):=some (Lex.name a0 a1)
set_option maxHeartbeats 8000000 in
set_option maxRecDepth 100000 in
theorem lex_Name.calls (a0:ByteArray)(a1:Int)(r1:Int)(r2:Int)(w:World)(h:lex_Name.f a0 a1=some (r1,r2)) :
  Calls Tryz.prog 91 #[.string a0,.int .i64 a1] w fun e w'=>e=.returned (.tuple #[.int .i64 r1,.int .i64 r2])∧Below w.heap.size w w':=by
 obtain ⟨rfl,rfl⟩:r1=(Lex.name a0 a1).1∧r2=(Lex.name a0 a1).2:=by have:=Option.some.inj h; rw [this]; exact ⟨rfl,rfl⟩
 clear h
 by_cases h3:a0.size=3
 ·have:=name_calls a0 a1 w h3
  unfold Lex.name
  rw [if_neg (by omega)]
  exact this
 have hv:Hid (Lex.name a0 a1=(0,2)):=Lib.hid (by unfold Lex.name; rw [if_pos h3])
 have e1:((a0.size:Int) != 3)=true:=by simp; omega
 have e2:(a0.size != 3)=true:=by simpa using h3
 replace h3:=Lib.hid h3
 go_enter Tryz.func91,Tryz.ntmps91
 go_upto_block 0 with (fail)
 go_cut [6,7] (fun _ _ wc=>wc=w)
 case first=>
  by_cases k3:a1=3
  ·subst k3
   go_wp2
   go_meet
   case rel=>rfl
  ·have b3:(a1 == 3)=false:=by simpa using k3
   by_cases k4:a1=4
   ·subst k4
    clear k3 b3
    go_wp2
    go_meet
    case rel=>rfl
   ·have b4:(a1 == 4)=false:=by simpa using k4
    clear k3 k4
    go_wp2
    go_meet
    case rel=>rfl
 case rest=>
  subst hcut
  go_wp2
  go_ret2
  exact ⟨Lex.ret2 hv.out,Below.refl _ _⟩
end Go.Proofs.YtcmmmlenaahaeaaGreatDoor.PShw
