-- Written by a program of this session (gprint.py) over the kit's print.
import Derived.Test.YtcmmmlenaahaeaaGreatDoorPShwx0
import Derived.Test.YtcmmmlenaahaeaaGreatDoorPShwx3
import Derived.Test.YtcmmmlenaahaeaaGreatDoorPShwx6
namespace Go.Proofs.YtcmmmlenaahaeaaGreatDoor.PShw
open Go.RowKit Go.Proofs.YtcmmmlenaahaeaaGreatDoorW.PrintWords Go.Proofs.YtcmmmlenaahaeaaGreatDoorW.PrintLast Go.Proofs.YtcmmmlenaahaeaaGreatDoorW.PrintMore
attribute [local go_sem] max2_int min2_int max_two min_two max_three min_three max_four min_four
set_option linter.unusedVariables false
set_option linter.unusedSimpArgs false
/-! This session's own: lex.Value. -/
def Lex.limits (kind:Int):Int × Int × Int:=
 if kind=0 then (0,59,0) else if kind=1 then (0,23,0) else if kind=2 then (1,31,0) else if kind=3 then (1,12,0) else if kind=4 then (0,7,0) else (0,0,7)
theorem Lex.limits_f (kind:Int):lex_Limits.f kind=some (Lex.limits kind):=by
 unfold lex_Limits.f Lex.limits
 repeat' split
 all_goals rfl
def Lex.fin (lo hi:Int)(r:Int × Int):Int × Int:=if r.2=0∧(r.1 < lo∨hi < r.1) then (0,1) else r
def Lex.read (s:ByteArray)(kind:Int):Int × Int:=if 48≤bt s 0∧bt s 0≤57 then Lex.number s else Lex.name s kind
def Lex.value (s:ByteArray)(kind:Int):Int × Int:=
 if (Lex.limits kind).2.2≠0 then (0,(Lex.limits kind).2.2) else Lex.fin (Lex.limits kind).1 (Lex.limits kind).2.1 (Lex.read s kind)
set_option maxHeartbeats 8000000 in
set_option maxRecDepth 100000 in
theorem read_name (s:ByteArray)(kind:Int)(p1 p2:Addr)(W:World)(h1:W.cell? p1=some (.string s))(h2:W.cell? p2=some (.int .i64 kind)) :
  Calls Tryz.prog 90 #[.pointer (some p1),.pointer (some p2)] W fun e w'=>e=.returned (.tuple #[.int .i64 (Lex.name s kind).1,.int .i64 (Lex.name s kind).2])∧Below W.heap.size W w':=by
 go_enter Tryz.func90,Tryz.ntmps90
 go_wp2_with (go_at_call 91; refine (lex_Name.calls s kind (Lex.name s kind).1 (Lex.name s kind).2 _ rfl).mono ?_; rintro e w' ⟨rfl,hb⟩)
 go_ret2
 exact ⟨rfl,hb⟩
set_option maxHeartbeats 8000000 in
set_option maxRecDepth 100000 in
theorem read_number (s:ByteArray)(p1:Addr)(W:World)(h1:W.cell? p1=some (.string s)) :
  Calls Tryz.prog 93 #[.pointer (some p1)] W fun e w'=>e=.returned (.tuple #[.int .i64 (Lex.number s).1,.int .i64 (Lex.number s).2])∧Below W.heap.size W w':=by
 go_enter Tryz.func93,Tryz.ntmps93
 go_wp2_with (go_at_call 64; refine (lex_Number.calls s (Lex.number s).1 (Lex.number s).2 _ rfl).mono ?_; rintro e w' ⟨rfl,hb⟩)
 go_ret2
 exact ⟨rfl,hb⟩
set_option maxHeartbeats 8000000 in
set_option maxRecDepth 100000 in
theorem value_ok (s:ByteArray)(kind:Int)(lo hi n f:Int)(w:World)(hl:lex_Limits.f kind=some (lo,hi,0))(hr:Lex.read s kind=(n,f)) :
  Calls Tryz.prog 63 #[.string s,.int .i64 kind] w fun e w'=>e=.returned (.tuple #[.int .i64 (Lex.fin lo hi (n,f)).1,.int .i64 (Lex.fin lo hi (n,f)).2])∧Below w.heap.size w w':=by
 have HL:=Lib.hid hl
 have HF:Hid (f=0∧(n < lo∨hi < n)→Lex.fin lo hi (n,f)=(0,1)):=Lib.hid (fun h=>by unfold Lex.fin; rw [if_pos h])
 have HF2:Hid (¬ (f=0∧(n < lo∨hi < n))→Lex.fin lo hi (n,f)=(n,f)):=Lib.hid (fun h=>by unfold Lex.fin; rw [if_neg h])
 obtain ⟨X,hX⟩:∃ X,Lex.fin lo hi (n,f)=X:=⟨_,rfl⟩
 rw [hX] at HF HF2 ⊢
 clear hX hl
 have C28:Hid (¬ (48≤bt s 0∧bt s 0≤57)→∀ (p1 p2:Addr) (W:World),W.cell? p1=some (.string s)→W.cell? p2=some (.int .i64 kind)→
   Calls Tryz.prog 90 #[.pointer (some p1),.pointer (some p2)] W fun e w'=>e=.returned (.tuple #[.int .i64 n,.int .i64 f])∧Below W.heap.size W w'):=by
  refine Lib.hid (fun hn p1 p2 W h1 h2=>?_)
  have:=read_name s kind p1 p2 W h1 h2
  rw [Lex.read,if_neg hn] at hr
  rw [hr] at this
  exact this
 have C30:Hid ((48≤bt s 0∧bt s 0≤57)→∀ (p1:Addr) (W:World),W.cell? p1=some (.string s)→
   Calls Tryz.prog 93 #[.pointer (some p1)] W fun e w'=>e=.returned (.tuple #[.int .i64 n,.int .i64 f])∧Below W.heap.size W w'):=by
  refine Lib.hid (fun hn p1 W h1=>?_)
  have:=read_number s p1 W h1
  rw [Lex.read,if_pos hn] at hr
  rw [hr] at this
  exact this
 clear hr
 have hfin:((f == 0)=false∧X=(n,f))∨((f == 0)=true∧decide (n < lo)=true∧X=(0,1))∨((f == 0)=true∧decide (n < lo)=false∧decide (hi < n)=true∧X=(0,1))∨((f == 0)=true∧decide (n < lo)=false∧decide (hi < n)=false∧X=(n,f)):=by
  have H1:=HF.out; have H2:=HF2.out
  by_cases c1:f=0
  ·by_cases c2:n < lo
   ·exact .inr (.inl ⟨by simpa using c1,by simpa using c2,H1 ⟨c1,.inl c2⟩⟩)
   ·by_cases c3:hi < n
    ·exact .inr (.inr (.inl ⟨by simpa using c1,by simpa using c2,by simpa using c3,H1 ⟨c1,.inr c3⟩⟩))
    ·exact .inr (.inr (.inr ⟨by simpa using c1,by simpa using c2,by simpa using c3,H2 (by omega)⟩))
  ·exact .inl ⟨by simpa using c1,H2 (by omega)⟩
 clear HF HF2
 by_cases h0:s.size=0
 ·have e0:s.toList.isEmpty=true:=Lex.empty_yes h0
  have e1:(s.toList == ([]:List UInt8))=true:=by simpa using e0
  have e2:(s.toList != ([]:List UInt8))=false:=by simpa using e0
  have hd:Hid (¬ (48≤bt s 0∧bt s 0≤57)):=Lib.hid (by simp [bt,h0])
  replace h0:=Lib.hid h0
  rcases hfin with ⟨f1,hX⟩ | ⟨f1,f2,hX⟩ | ⟨f1,f2,f3,hX⟩ | ⟨f1,f2,f3,hX⟩
  all_goals
   replace hX:=Lib.hid hX
   go_enter Tryz.func63,Tryz.ntmps63
   go_wp2_with (first | (go_at_call 58; refine (lex_Limits.calls _ _ _ _ _ HL.out).mono ?_; rintro e w' ⟨rfl,⟨nd,rfl⟩⟩) | (go_at_call 90; refine (C28.out hd.out _ _ _ (by go_simp) (by go_simp)).mono ?_; rintro e w' ⟨rfl,hb⟩))
   go_ret2
   refine ⟨Lex.ret2 hX.out,?_⟩
   exact Lex.behind hb (by simp; omega) (by have HB:=Aside0.mk (Below.refl w.heap.size w); repeat (with_reducible first | exact HB.out | apply below_alloc | apply pw_below_drewN | apply below_drew1))
 ·have e0:s.toList.isEmpty=false:=Lex.empty_no h0
  have e1:(s.toList == ([]:List UInt8))=false:=by simpa using e0
  have e2:(s.toList != ([]:List UInt8))=true:=by simpa using e0
  have hx5:=Lex.index0 s (by omega)
  have hbd:=bt_range s 0
  obtain ⟨hb0,hb1⟩ :=hbd
  replace h0:=Lib.hid h0
  obtain ⟨B,hB⟩:∃ B,bt s 0=B:=⟨_,rfl⟩
  rw [hB] at hx5 hb0 hb1
  by_cases hd:48≤bt s 0∧bt s 0≤57
  ·replace hd:=Lib.hid hd
   have hdig:Hid (lex_sign_digit.f B=some true):=Lib.hid (by rw [Lex.digit_f,← hB,decide_eq_true hd.out.1,decide_eq_true hd.out.2]; rfl)
   replace hB:=Lib.hid hB
   rcases hfin with ⟨f1,hX⟩ | ⟨f1,f2,hX⟩ | ⟨f1,f2,f3,hX⟩ | ⟨f1,f2,f3,hX⟩
   all_goals
    replace hX:=Lib.hid hX
    go_enter Tryz.func63,Tryz.ntmps63
    go_wp2_with (first | (go_at_call 58; refine (lex_Limits.calls _ _ _ _ _ HL.out).mono ?_; rintro e w' ⟨rfl,⟨nd,rfl⟩⟩) | (go_at_call 92; refine (lex_sign_digit.calls _ _ _ hdig.out).mono ?_; rintro e w' ⟨rfl,⟨nd2,rfl⟩⟩) | (go_at_call 93; refine (C30.out hd.out _ _ (by go_simp)).mono ?_; rintro e w' ⟨rfl,hb⟩))
    go_ret2
    refine ⟨Lex.ret2 hX.out,?_⟩
    exact Lex.behind hb (by simp; omega) (by have HB:=Aside0.mk (Below.refl w.heap.size w); repeat (with_reducible first | exact HB.out | apply below_alloc | apply pw_below_drewN | apply below_drew1))
  ·have hdig:Hid (lex_sign_digit.f B=some false):=Lib.hid (by rw [Lex.digit_f,← hB]; congr 1; simp only [Bool.and_eq_false_iff,decide_eq_false_iff_not]; omega)
   replace hd:=Lib.hid hd
   replace hB:=Lib.hid hB
   rcases hfin with ⟨f1,hX⟩ | ⟨f1,f2,hX⟩ | ⟨f1,f2,f3,hX⟩ | ⟨f1,f2,f3,hX⟩
   all_goals
    replace hX:=Lib.hid hX
    go_enter Tryz.func63,Tryz.ntmps63
    go_wp2_with (first | (go_at_call 58; refine (lex_Limits.calls _ _ _ _ _ HL.out).mono ?_; rintro e w' ⟨rfl,⟨nd,rfl⟩⟩) | (go_at_call 92; refine (lex_sign_digit.calls _ _ _ hdig.out).mono ?_; rintro e w' ⟨rfl,⟨nd2,rfl⟩⟩) | (go_at_call 90; refine (C28.out hd.out _ _ _ (by go_simp) (by go_simp)).mono ?_; rintro e w' ⟨rfl,hb⟩))
    go_ret2
    refine ⟨Lex.ret2 hX.out,?_⟩
    exact Lex.behind hb (by simp; omega) (by have HB:=Aside0.mk (Below.refl w.heap.size w); repeat (with_reducible first | exact HB.out | apply below_alloc | apply pw_below_drewN | apply below_drew1))
def lex_Value.f (a0:ByteArray)(a1:Int):Option (Int × Int):=some (Lex.value a0 a1)
set_option maxHeartbeats 8000000 in
set_option maxRecDepth 100000 in
theorem lex_Value.calls (a0:ByteArray)(a1:Int)(r1:Int)(r2:Int)(w:World)(h:lex_Value.f a0 a1=some (r1,r2)) :
  Calls Tryz.prog 63 #[.string a0,.int .i64 a1] w fun e w'=>e=.returned (.tuple #[.int .i64 r1,.int .i64 r2])∧Below w.heap.size w w':=by
 obtain ⟨rfl,rfl⟩:r1=(Lex.value a0 a1).1∧r2=(Lex.value a0 a1).2:=by have:=Option.some.inj h; rw [this]; exact ⟨rfl,rfl⟩
 clear h
 obtain ⟨lo,hi,e,hl⟩:∃ lo hi e,Lex.limits a1=(lo,hi,e):=⟨_,_,_,rfl⟩
 have hf:=Lex.limits_f a1
 rw [hl] at hf
 by_cases he:e=0
 ·subst he
  have hv:Lex.value a0 a1=Lex.fin lo hi (Lex.read a0 a1):=by unfold Lex.value; rw [hl,if_neg (by simp)]
  obtain ⟨n,f,hr⟩:∃ n f,Lex.read a0 a1=(n,f):=⟨_,_,rfl⟩
  rw [hv,hr]
  exact value_ok a0 a1 lo hi n f w hf hr
 have hv:Hid (Lex.value a0 a1=(0,e)):=Lib.hid (by unfold Lex.value; rw [hl,if_pos he])
 have q:(e != 0)=true:=by simpa using he
 replace hf:=Lib.hid hf
 replace he:=Lib.hid he
 replace hl:=Lib.hid hl
 go_enter Tryz.func63,Tryz.ntmps63
 go_wp2_with (go_at_call 58; refine (lex_Limits.calls _ _ _ _ _ hf.out).mono ?_; rintro e w' ⟨rfl,⟨nd,rfl⟩⟩)
 go_ret2
 refine ⟨Lex.ret2 hv.out,?_⟩
 have HB:=Aside0.mk (Below.refl w.heap.size w)
 repeat (with_reducible first | exact HB.out | apply below_alloc | apply pw_below_drewN | apply below_drew1)
end Go.Proofs.YtcmmmlenaahaeaaGreatDoor.PShw
