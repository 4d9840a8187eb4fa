-- Written by a program of this session (gprint.py) over the kit's print.
import Derived.Test.YtabhfcoljgcpeaaGreatDoorPNexx0
import Derived.Test.YtabhfcoljgcpeaaGreatDoorPNexx1
import Derived.Test.YtabhfcoljgcpeaaGreatDoorPNexx8
namespace Go.Proofs.YtabhfcoljgcpeaaGreatDoor.PNex
open Go.RowKit Go.Proofs.YtabhfcoljgcpeaaGreatDoorW.PrintWords Go.Proofs.YtabhfcoljgcpeaaGreatDoorW.PrintLast Go.Proofs.YtabhfcoljgcpeaaGreatDoorW.PrintMore
attribute [local go_sem] max2_int min2_int max_two min_two max_three min_three max_four min_four
set_option linter.unusedVariables false
set_option linter.unusedSimpArgs false
theorem Fld.genR {P:Program}{c:Code}{Q:Exit→Act→World→Prop}{n:Nat}{a:Act}{W:World}(F:World→Prop)(h:F W)(k:∀ W1,F W1→Code.rounds P c Q n a W1):Code.rounds P c Q n a W:=k W h
theorem Spc.far {W:World}{g h:Nat}{cs:Array Value}{t:TypeId}(H:W.heap[g]?=some (.cells cs t (0,0)))(hn:g≠h)(i j:Nat)(u v:Value):((W.setCell ⟨h,i,none⟩ u).setCell ⟨h,j,none⟩ v).heap[g]?=some (.cells cs t (0,0)):=blk_far (p:=⟨h,j,none⟩) (blk_far (p:=⟨h,i,none⟩) H hn u) hn v
theorem Spc.gen {P:Program}{f:FuncId}{args:Array Value}{W:World}{Q:Ending→World→Prop}(F:World→Prop)(h:F W)(k:∀ W1,F W1→Calls P f args W1 Q):Calls P f args W Q:=k W h
def lex_sign_blank.f (a0:Int):Option (Bool):=if a0=32 then (some true) else (some (a0 == 9))
set_option maxHeartbeats 8000000 in
set_option maxRecDepth 100000 in
theorem lex_sign_blank.calls (a0:Int)(r:Bool)(w:World)(h:lex_sign_blank.f a0=some r) :
  Calls Tryz.prog 78 #[.int .i32 a0] w fun e w'=>e=.returned (.bool r)∧Drawn0 w w':=by
 have H:(if a0=32 then (some true) else (some (a0 == 9)))=some r:=h
 clear h
 by_cases c2:a0=32
 ·rw [if_pos c2] at H
  have c2b0:(a0 == 32)=true:=beq_iff_eq.mpr c2
  have c2b1:(a0 != 32)=false:=bne_eq_false_iff_eq.mpr c2
  clear c2
  obtain rfl:=Option.some.inj H
  go_enter Tryz.func78,Tryz.ntmps78
  go_wp2
  go_ret
  exact ⟨by first | rfl | (simp; done) | (simp [*]; done),by repeat (first | exact Drawn0.refl _ | apply Drawn0.step)⟩
 ·rw [if_neg c2] at H
  have c2b0:(a0 == 32)=false:=beq_eq_false_iff_ne.mpr c2
  have c2b1:(a0 != 32)=true:=bne_iff_ne.mpr c2
  obtain rfl:=Option.some.inj H
  go_enter Tryz.func78,Tryz.ntmps78
  go_wp2
  go_ret
  exact ⟨by first | rfl | (simp; done) | (simp [*]; done),by repeat (first | exact Drawn0.refl _ | apply Drawn0.step)⟩
def lex_sign_digit.f (a0:Int):Option (Bool):=if a0≥48 then (some (decide (a0≤57))) else (some false)
set_option maxHeartbeats 8000000 in
set_option maxRecDepth 100000 in
theorem lex_sign_digit.calls (a0:Int)(r:Bool)(w:World)(h:lex_sign_digit.f a0=some r) :
  Calls Tryz.prog 101 #[.int .i32 a0] w fun e w'=>e=.returned (.bool r)∧Drawn0 w w':=by
 have H:(if a0≥48 then (some (decide (a0≤57))) else (some false))=some r:=h
 clear h
 by_cases c2:a0≥48
 ·rw [if_pos c2] at H
  have c2b0:decide (48≤a0)=true:=decide_eq_true c2
  clear c2
  obtain rfl:=Option.some.inj H
  go_enter Tryz.func101,Tryz.ntmps101
  go_wp2
  go_ret
  exact ⟨by first | rfl | (simp; done) | (simp [*]; done),by repeat (first | exact Drawn0.refl _ | apply Drawn0.step)⟩
 ·rw [if_neg c2] at H
  have c2b0:decide (48≤a0)=false:=decide_eq_false c2
  clear c2
  obtain rfl:=Option.some.inj H
  go_enter Tryz.func101,Tryz.ntmps101
  go_wp2
  go_ret
  exact ⟨by first | rfl | (simp; done) | (simp [*]; done),by repeat (first | exact Drawn0.refl _ | apply Drawn0.step)⟩
mutual
def lex_sign_known.j1:Nat→Int→Option (Bool)
 | 0,_=>none
 | k+1,x0=>if x0=42 then (some true) else (if x0=44 then (some true) else (if x0=45 then (some true) else (if x0=47 then (some true) else (some false))))
def lex_sign_known.j0:Nat→Int→Bool→Option (Bool)
 | 0,_,_=>none
 | k+1,x0,x3=>if x3=true then (some true) else (if x0≥65 then (if x0≤90 then (some true) else (lex_sign_known.j1 k x0)) else (lex_sign_known.j1 k x0))
end
def lex_sign_known.f (k:Nat)(a0:Int):Option (Bool):=(lex_sign_blank.f a0).bind fun t166=>(if t166=true then (some true) else ((lex_sign_digit.f a0).bind fun t167=>(if t167=true then (some true) else (if a0≥97 then (lex_sign_known.j0 k a0 (decide (a0≤122))) else (lex_sign_known.j0 k a0 false)))))
set_option maxHeartbeats 8000000 in
set_option maxRecDepth 100000 in
theorem lex_sign_known.calls (k:Nat)(a0:Int)(r:Bool)(w:World)(h:lex_sign_known.f k a0=some r) :
  Calls Tryz.prog 77 #[.int .i32 a0] w fun e w'=>e=.returned (.bool r)∧Drawn0 w w':=by
 have H:((lex_sign_blank.f a0).bind fun t166=>(if t166=true then (some true) else ((lex_sign_digit.f a0).bind fun t167=>(if t167=true then (some true) else (if a0≥97 then (lex_sign_known.j0 k a0 (decide (a0≤122))) else (lex_sign_known.j0 k a0 false))))))=some r:=h
 clear h
 have HC2:=Aside0.mk H
 clear H
 go_enter Tryz.func77,Tryz.ntmps77
 go_upto_block 0 with (fail)
 go_cut [] (fun wc=>∃ (kq:Nat),Aside0 (lex_sign_known.j1 kq a0=some r)∧Aside0 (kq≤k)∧Drawn0 w wc)
 case first=>
  have H:=HC2.out
  clear HC2
  replace H:=Option.bind_eq_some_iff.mp H
  obtain ⟨t166,A30,H⟩ :=H
  replace H:(if t166=true then (some true) else ((lex_sign_digit.f a0).bind fun t167=>(if t167=true then (some true) else (if a0≥97 then (lex_sign_known.j0 k a0 (decide (a0≤122))) else (lex_sign_known.j0 k a0 false)))))=some r:=H
  have A3:=Aside0.mk A30
  clear A30
  by_cases c4:t166=true
  ·subst c4
   have H1:(some true)=some r:=by rw [if_pos rfl] at H; exact H
   clear H
   have H:=H1
   clear H1
   obtain rfl:=Option.some.inj H
   go_wp2_with (first | ((with_reducible refine gate_callee (f:=78) rfl ?_); refine goesL_ (some 5) rfl rfl Tryz.func78 (by kernel_rfl) rfl #[.int .i32 a0] rfl (by (try simp only [List.map_toArray,List.map_cons,List.map_nil]); first | done | rfl | (simp only [List.length_drop,List.length_take]; rfl)) ?_; (with_reducible refine (lex_sign_blank.calls a0 true _ A3.out).mono ?_); rintro e w' ⟨rfl,⟨nd,rfl⟩⟩; refine ⟨_,rfl,?_⟩))
   go_ret
   exact ⟨by first | rfl | (simp; done) | (simp [*]; done),by repeat (first | exact Drawn0.refl _ | apply Drawn0.step)⟩
  ·replace c4:=Bool.eq_false_iff.mpr c4
   subst c4
   have H1:((lex_sign_digit.f a0).bind fun t167=>(if t167=true then (some true) else (if a0≥97 then (lex_sign_known.j0 k a0 (decide (a0≤122))) else (lex_sign_known.j0 k a0 false))))=some r:=by rw [if_neg (show ¬ (false=true) by decide)] at H; exact H
   clear H
   have H:=H1
   clear H1
   replace H:=Option.bind_eq_some_iff.mp H
   obtain ⟨t167,A50,H⟩ :=H
   replace H:(if t167=true then (some true) else (if a0≥97 then (lex_sign_known.j0 k a0 (decide (a0≤122))) else (lex_sign_known.j0 k a0 false)))=some r:=H
   have A5:=Aside0.mk A50
   clear A50
   by_cases c6:t167=true
   ·subst c6
    have H1:(some true)=some r:=by rw [if_pos rfl] at H; exact H
    clear H
    have H:=H1
    clear H1
    obtain rfl:=Option.some.inj H
    go_wp2_with (first | ((with_reducible refine gate_callee (f:=78) rfl ?_); refine goesL_ (some 5) rfl rfl Tryz.func78 (by kernel_rfl) rfl #[.int .i32 a0] rfl (by (try simp only [List.map_toArray,List.map_cons,List.map_nil]); first | done | rfl | (simp only [List.length_drop,List.length_take]; rfl)) ?_; (with_reducible refine (lex_sign_blank.calls a0 false _ A3.out).mono ?_); rintro e w' ⟨rfl,⟨nd,rfl⟩⟩; refine ⟨_,rfl,?_⟩) | ((with_reducible refine gate_callee (f:=101) rfl ?_); refine goesL_ (some 7) rfl rfl Tryz.func101 (by kernel_rfl) rfl #[.int .i32 a0] rfl (by (try simp only [List.map_toArray,List.map_cons,List.map_nil]); first | done | rfl | (simp only [List.length_drop,List.length_take]; rfl)) ?_; (with_reducible refine (lex_sign_digit.calls a0 true _ A5.out).mono ?_); rintro e w' ⟨rfl,⟨nd,rfl⟩⟩; refine ⟨_,rfl,?_⟩))
    go_ret
    exact ⟨by first | rfl | (simp; done) | (simp [*]; done),by repeat (first | exact Drawn0.refl _ | apply Drawn0.step)⟩
   ·replace c6:=Bool.eq_false_iff.mpr c6
    subst c6
    have H1:(if a0≥97 then (lex_sign_known.j0 k a0 (decide (a0≤122))) else (lex_sign_known.j0 k a0 false))=some r:=by rw [if_neg (show ¬ (false=true) by decide)] at H; exact H
    clear H
    have H:=H1
    clear H1
    have HC7:=Aside0.mk H
    clear H
    go_upto_region 3 with (first | ((with_reducible refine gate_callee (f:=78) rfl ?_); refine goesL_ (some 5) rfl rfl Tryz.func78 (by kernel_rfl) rfl #[.int .i32 a0] rfl (by (try simp only [List.map_toArray,List.map_cons,List.map_nil]); first | done | rfl | (simp only [List.length_drop,List.length_take]; rfl)) ?_; (with_reducible refine (lex_sign_blank.calls a0 false _ A3.out).mono ?_); rintro e w' ⟨rfl,⟨nd,rfl⟩⟩; refine ⟨_,rfl,?_⟩) | ((with_reducible refine gate_callee (f:=101) rfl ?_); refine goesL_ (some 7) rfl rfl Tryz.func101 (by kernel_rfl) rfl #[.int .i32 a0] rfl (by (try simp only [List.map_toArray,List.map_cons,List.map_nil]); first | done | rfl | (simp only [List.length_drop,List.length_take]; rfl)) ?_; (with_reducible refine (lex_sign_digit.calls a0 false _ A5.out).mono ?_); rintro e w' ⟨rfl,⟨nd,rfl⟩⟩; refine ⟨_,rfl,?_⟩))
    (try simp only [Act.put,List.setIfInBounds_toArray,List.set_cons_zero,List.set_cons_succ])
    go_cut [3] (fun v3 wc=>∃ (kq:Nat) (x3_6:Bool),v3=.bool x3_6∧Aside0 (lex_sign_known.j0 kq a0 x3_6=some r)∧Aside0 (kq≤k)∧Drawn0 w wc)
    case first=>
     have H:=HC7.out
     clear HC7
     by_cases c8:a0≥97
     ·rw [if_pos c8] at H
      have c8b0:decide (97≤a0)=true:=decide_eq_true c8
      clear c8
      (first | rw [c8b0] | (simp only [i64_w,i32_w]; rw [c8b0]) | skip)
      have H':=Aside0.mk H
      clear H
      go_wp2
      go_meet
      case rel=>exact ⟨_,(decide (a0≤122)),(by first | rfl | (simp; done) | (simp [*]; done)),H',⟨by first | omega | exact Nat.le_refl _⟩,by repeat (first | exact Drawn0.refl _ | apply Drawn0.step)⟩
     ·rw [if_neg c8] at H
      have c8b0:decide (97≤a0)=false:=decide_eq_false c8
      clear c8
      (first | rw [c8b0] | (simp only [i64_w,i32_w]; rw [c8b0]) | skip)
      have H':=Aside0.mk H
      clear H
      go_wp2
      go_meet
      case rel=>exact ⟨_,(false),(by first | rfl | (simp; done) | (simp [*]; done)),H',⟨by first | omega | exact Nat.le_refl _⟩,by repeat (first | exact Drawn0.refl _ | apply Drawn0.step)⟩
    case rest=>
     clear HC7
     try clear c1
     try clear p2
     try clear c4
     try clear c6
     try clear c7
     try clear c8
     try clear c8b0
     obtain ⟨kq,x3_6,rfl,HA,HJ6,⟨mc6,rfl⟩⟩ :=hcut
     cases kq with
     | zero=>exact absurd HA.out (by simp [lex_sign_known.j0])
     | succ kj6=>
      have H:=HA.out
      clear HA
      simp only [lex_sign_known.j0] at H
      by_cases c9:x3_6=true
      ·subst c9
       have H1:(some true)=some r:=by rw [if_pos rfl] at H; exact H
       clear H
       have H:=H1
       clear H1
       obtain rfl:=Option.some.inj H
       go_wp2
       go_ret
       exact ⟨by first | rfl | (simp; done) | (simp [*]; done),by repeat (first | exact Drawn0.refl _ | apply Drawn0.step)⟩
      ·replace c9:=Bool.eq_false_iff.mpr c9
       subst c9
       have H1:(if a0≥65 then (if a0≤90 then (some true) else (lex_sign_known.j1 kj6 a0)) else (lex_sign_known.j1 kj6 a0))=some r:=by rw [if_neg (show ¬ (false=true) by decide)] at H; exact H
       clear H
       have H:=H1
       clear H1
       by_cases c10:a0≥65
       ·rw [if_pos c10] at H
        have c10b0:decide (65≤a0)=true:=decide_eq_true c10
        clear c10
        by_cases c11:a0≤90
        ·rw [if_pos c11] at H
         have c11b0:decide (a0≤90)=true:=decide_eq_true c11
         clear c11
         obtain rfl:=Option.some.inj H
         go_wp2
         go_ret
         exact ⟨by first | rfl | (simp; done) | (simp [*]; done),by repeat (first | exact Drawn0.refl _ | apply Drawn0.step)⟩
        ·rw [if_neg c11] at H
         have c11b0:decide (a0≤90)=false:=decide_eq_false c11
         clear c11
         have H':=Aside0.mk H
         clear H
         go_wp2
         go_meet
         case rel=>exact ⟨_,H',⟨by have:=HJ6.out; first | omega | exact Nat.le_refl _⟩,by repeat (first | exact Drawn0.refl _ | apply Drawn0.step)⟩
       ·rw [if_neg c10] at H
        have c10b0:decide (65≤a0)=false:=decide_eq_false c10
        clear c10
        have H':=Aside0.mk H
        clear H
        go_wp2
        go_meet
        case rel=>exact ⟨_,H',⟨by have:=HJ6.out; first | omega | exact Nat.le_refl _⟩,by repeat (first | exact Drawn0.refl _ | apply Drawn0.step)⟩
 case rest=>
  clear HC2
  try clear c1
  try clear p2
  try clear c4
  try clear c6
  try clear c7
  try clear c8
  try clear c8b0
  try clear c9
  try clear c10
  try clear c10b0
  try clear c11
  try clear c11b0
  try clear p2
  obtain ⟨kq,HA,HJ1,⟨mc1,rfl⟩⟩ :=hcut
  cases kq with
  | zero=>exact absurd HA.out (by simp [lex_sign_known.j1])
  | succ kj1=>
   have H:=HA.out
   clear HA
   simp only [lex_sign_known.j1] at H
   by_cases c12:a0=42
   ·rw [if_pos c12] at H
    have c12b0:(a0 == 42)=true:=beq_iff_eq.mpr c12
    have c12b1:(a0 != 42)=false:=bne_eq_false_iff_eq.mpr c12
    clear c12
    obtain rfl:=Option.some.inj H
    go_wp2
    go_ret
    exact ⟨by first | rfl | (simp; done) | (simp [*]; done),by repeat (first | exact Drawn0.refl _ | apply Drawn0.step)⟩
   ·rw [if_neg c12] at H
    have c12b0:(a0 == 42)=false:=beq_eq_false_iff_ne.mpr c12
    have c12b1:(a0 != 42)=true:=bne_iff_ne.mpr c12
    by_cases c13:a0=44
    ·rw [if_pos c13] at H
     have c13b0:(a0 == 44)=true:=beq_iff_eq.mpr c13
     have c13b1:(a0 != 44)=false:=bne_eq_false_iff_eq.mpr c13
     clear c13
     obtain rfl:=Option.some.inj H
     go_wp2
     go_ret
     exact ⟨by first | rfl | (simp; done) | (simp [*]; done),by repeat (first | exact Drawn0.refl _ | apply Drawn0.step)⟩
    ·rw [if_neg c13] at H
     have c13b0:(a0 == 44)=false:=beq_eq_false_iff_ne.mpr c13
     have c13b1:(a0 != 44)=true:=bne_iff_ne.mpr c13
     by_cases c14:a0=45
     ·rw [if_pos c14] at H
      have c14b0:(a0 == 45)=true:=beq_iff_eq.mpr c14
      have c14b1:(a0 != 45)=false:=bne_eq_false_iff_eq.mpr c14
      clear c14
      obtain rfl:=Option.some.inj H
      go_wp2
      go_ret
      exact ⟨by first | rfl | (simp; done) | (simp [*]; done),by repeat (first | exact Drawn0.refl _ | apply Drawn0.step)⟩
     ·rw [if_neg c14] at H
      have c14b0:(a0 == 45)=false:=beq_eq_false_iff_ne.mpr c14
      have c14b1:(a0 != 45)=true:=bne_iff_ne.mpr c14
      by_cases c15:a0=47
      ·rw [if_pos c15] at H
       have c15b0:(a0 == 47)=true:=beq_iff_eq.mpr c15
       have c15b1:(a0 != 47)=false:=bne_eq_false_iff_eq.mpr c15
       clear c15
       obtain rfl:=Option.some.inj H
       go_wp2
       go_ret
       exact ⟨by first | rfl | (simp; done) | (simp [*]; done),by repeat (first | exact Drawn0.refl _ | apply Drawn0.step)⟩
      ·rw [if_neg c15] at H
       have c15b0:(a0 == 47)=false:=beq_eq_false_iff_ne.mpr c15
       have c15b1:(a0 != 47)=true:=bne_iff_ne.mpr c15
       obtain rfl:=Option.some.inj H
       go_wp2
       go_ret
       exact ⟨by first | rfl | (simp; done) | (simp [*]; done),by repeat (first | exact Drawn0.refl _ | apply Drawn0.step)⟩
/-! This session's own: words for the walks of lex. -/
/-- What a string's byte says of the rune that begins there. -/
theorem Lex.rune_at (s:ByteArray)(pos:Nat)(h:pos < s.size) :
  ((s[pos]'h).toNat < 128∧Utf8.decode s pos=((s[pos]'h).toNat,1))∨(128≤(s[pos]'h).toNat∧128≤(Utf8.decode s pos).1):=by
 by_cases ha:(s[pos]'h).toNat < 128
 ·exact .inl ⟨ha,decode_ascii s pos h ha⟩
 ·refine .inr ⟨by omega,?_⟩
  have hb:(s.get! (pos+0)).toNat=(s[pos]'h).toNat:=by
   have e:s.get! pos=s[pos]'h:=by
    show s.data[pos]! = s.data[pos]'h
    exact getElem!_pos s.data pos h
   rw [Nat.add_zero,e]
  unfold Utf8.decode
  simp only [hb]
  rw [if_neg (by omega)]
  repeat' split
  all_goals first | decide | (simp only [Bool.and_eq_true,decide_eq_true_eq] at *; omega)
theorem Lex.below_it {w W:World}{B k:Nat}(h:Below B w W)(hk:B≤k)(s:ByteArray)(pos:Nat):Below B w (W.iterAt k s pos):=Lib.below_iterAt h hk s pos
theorem Lex.ret2 {x:Int × Int}{a b:Int}(h:x=(a,b)):Ending.returned (.tuple #[.int .i64 a,.int .i64 b])=.returned (.tuple #[.int .i64 x.1,.int .i64 x.2]):=by rw [h]
theorem Lex.ret2' {x:Int × Int}{a b a' b':Int}(ha:a'=a)(hb:b'=b)(h:x=(a,b)):Ending.returned (.tuple #[.int .i64 a',.int .i64 b'])=.returned (.tuple #[.int .i64 x.1,.int .i64 x.2]):=by rw [h,ha,hb]
theorem Lex.behind {w W w':World}(hb:Below W.heap.size W w')(hs:w.heap.size≤W.heap.size)(h:Below w.heap.size w W):Below w.heap.size w w':=h.trans (hb.mono hs)
theorem Lex.slice_run (nm:ByteArray)(pos:Nat)(h:pos+3≤nm.size)(W:World):(Instr.slice 9 (.string nm) (some (.int .i64 (pos:Int))) (some (.int .i64 ((pos:Int)+3))) none).run Tryz.prog W=.ok (.string (nm.extract pos (pos+3))) W:=by
 have m4:(pos:Int)+3≤(nm.size:Int):=by omega
 have m5:((pos:Int)+3).toNat=pos+3:=by omega
 have m6:0≤(pos:Int)+3:=by omega
 have hu:=run_underlying Tryz.underlying9
 simp [Instr.slice,Instr.sliceBounds,Instr.sliceBound,hu,go_sem,m4,m5,m6]
theorem Lex.index0 (s:ByteArray)(h:0 < s.size)(W:World):(Instr.index 9 (.string s) (.int .i64 0)).run Tryz.prog W=.ok (.int .u8 (bt s 0)) W:=by
 have hu:=run_underlying Tryz.underlying9
 have e:s[0]?=some (s[0]'h):=getElem?_pos s 0 h
 have hb:=bt_at s 0 (by simpa using h)
 simp only [Int.toNat_zero] at hb
 simp [Instr.index,hu,go_sem,e,hb]
theorem Lex.empty_yes {s:ByteArray}(h:s.size=0):s.toList.isEmpty=true:=by
 rw [ByteArray.toList_eq]
 have:s.data.toList.length=s.size:=by rw [Array.length_toList]; rfl
 cases hl:s.data.toList with
 | nil=>rfl
 | cons _ _=>rw [hl,h] at this; simp at this
theorem Lex.empty_no {s:ByteArray}(h:¬ s.size=0):s.toList.isEmpty=false:=by
  rw [ByteArray.toList_eq]
  cases hl:s.data.toList with
  | nil => have : s.data.toList.length = s.size := by rw [Array.length_toList]; rfl
           rw [hl] at this; exact absurd this.symm h
  | cons _ _=>rfl
def Lex.lays229_ren:Go.Shelf.Ren:=⟨fun | 229=>79 | n=>n,fun | 9=>9 | 40=>102 | 31=>77 | 152=>121 | 3=>3 | 0=>0 | 4=>4 | 21=>21 | 154=>123 | n=>n,fun | n=>n⟩
theorem Lex.lays229:Go.Proofs.Lays.n229 Tryz.prog Lex.lays229_ren:={
 mixed:=by kernel_rfl
 f229:=Tryz.func79.trans (congrArg some (by kernel_rfl))
 t0:=Tryz.underlying0
 a0:=Tryz.isAgg0
 z0:=Tryz.sizeOf0
 v0:=Tryz.zeroValue0
 t3:=Tryz.underlying3
 a3:=Tryz.isAgg3
 z3:=Tryz.sizeOf3
 v3:=Tryz.zeroValue3
 t4:=Tryz.underlying4
 a4:=Tryz.isAgg4
 z4:=Tryz.sizeOf4
 v4:=Tryz.zeroValue4
 t9:=Tryz.underlying9
 a9:=Tryz.isAgg9
 z9:=Tryz.sizeOf9
 v9:=Tryz.zeroValue9
 t21:=Tryz.underlying21
 a21:=Tryz.isAgg21
 z21:=Tryz.sizeOf21
 v21:=Tryz.zeroValue21
 t31:=Tryz.underlying77
 a31:=Tryz.isAgg77
 z31:=Tryz.sizeOf77
 v31:=Tryz.zeroValue77
 t40:=Tryz.underlying102
 a40:=Tryz.isAgg102
 z40:=Tryz.sizeOf102
 v40:=Tryz.zeroValue102
 t152:=Tryz.underlying121
 a152:=Tryz.isAgg121
 z152:=Tryz.sizeOf121
 v152:=Tryz.zeroValue121
 t154:=Tryz.underlying123
 a154:=Tryz.isAgg123
 z154:=Tryz.sizeOf123
 v154:=Tryz.zeroValue123 }
theorem Lex.strings_FieldsFunc_runes (g:Nat)(lb:Array Value)(eg:∀ args w,(callFunc g args).run Tryz.prog w=.ok (.enter g args) w)(p:Nat→Bool)(s:ByteArray)(w:World)(hs:s.size≤4294967296)(hp:PredAtRunes Tryz.prog g lb p w) :
  Calls Tryz.prog 79 #[.string s,.func (.func g) #[] lb] w fun e w'=>∃ A,e=.returned (.slice (some ⟨A,0,none⟩) (Lib.goFieldsP p s).length (Lib.goFieldsP p s).length)∧w.heap.size≤A∧
   w'.ownsRow w.heap.size 9 1 (.slice (some ⟨A,0,none⟩) (Lib.goFieldsP p s).length (Lib.goFieldsP p s).length) (Lib.goFieldsP p s).length ((Lib.goFieldsP p s).map Value.string)∧Below w.heap.size w w':=Any.strings_FieldsFunc_runes Lex.lays229 g lb eg p s w hs hp (by kernel_rfl) (by kernel_rfl)
/-! This session's own: lex.Fields. -/
def Lex.blankN (x:Nat):Bool:=x == 32 || x == 9
def Lex.knownI (c:Int):Bool:=decide (c=32) || decide (c=9) || (decide (48≤c) && decide (c≤57)) || (decide (97≤c) && decide (c≤122)) || (decide (65≤c) && decide (c≤90)) || decide (c=42) || decide (c=44) || decide (c=45) || decide (c=47)
def Lex.knownAll (l:List UInt8):Bool:=l.all fun b=>Lex.knownI b.toNat
def Lex.fields (s:ByteArray):List ByteArray × Int:=
 if 256 < s.size then ([],3) else if Lex.knownAll s.data.toList=false then ([],2) else if (Lib.goFieldsP Lex.blankN s).length≠5 then ([],2) else (Lib.goFieldsP Lex.blankN s,0)
theorem Lex.known_j1 (c:Int)(k:Nat):lex_sign_known.j1 (k+1) c=some (decide (c=42) || decide (c=44) || decide (c=45) || decide (c=47)):=by
 simp only [lex_sign_known.j1]
 by_cases h1:c=42
 ·simp [h1]
 by_cases h2:c=44
 ·simp [h2]
 by_cases h3:c=45
 ·simp [h3]
 by_cases h4:c=47
 ·simp [h4]
 simp [h1,h2,h3,h4]
theorem Lex.known_j (c:Int)(k:Nat)(b:Bool):lex_sign_known.j0 (k+1+1) c b=some (b || (decide (65≤c) && decide (c≤90)) || (decide (c=42) || decide (c=44) || decide (c=45) || decide (c=47))):=by
 simp only [lex_sign_known.j0,Lex.known_j1]
 cases b
 ·by_cases h1:c≥65
  ·by_cases h2:c≤90
   ·simp [h1,h2]
   ·simp [h1,h2]
  ·simp [h1]
 ·simp
theorem Lex.known_f (c:Int)(k:Nat)(hk:4≤k):lex_sign_known.f k c=some (Lex.knownI c):=by
 obtain ⟨k,rfl⟩:∃ j,k=j+1+1:=⟨k - 2,by omega⟩
 unfold lex_sign_known.f lex_sign_blank.f lex_sign_digit.f Lex.knownI
 rw [Lex.known_j,Lex.known_j]
 by_cases h1:c=32
 ·simp [h1]
 by_cases h2:c=9
 ·simp [h2]
 have h2':(c == 9)=false:=by simpa using h2
 by_cases h3:c≥48
 ·by_cases h4:c≤57
  ·simp [h1,h2',h3,h4]
  ·by_cases h5:c≥97
   ·simp [h1,h2,h2',h3,h4,h5,Bool.or_assoc]
   ·simp [h1,h2,h2',h3,h4,h5,Bool.or_assoc]
 ·have h5:¬ c≥97:=by omega
  simp [h1,h2,h2',h3,h5,Bool.or_assoc]
theorem Lex.knownAll_drop (s:ByteArray)(pos:Nat)(h:pos < s.size):Lex.knownAll (s.data.toList.drop pos)=(Lex.knownI (s[pos]'h).toNat && Lex.knownAll (s.data.toList.drop (pos+1))):=by
 rw [show s.data.toList.drop pos=(s[pos]'h) :: s.data.toList.drop (pos+1) by rw [List.drop_eq_getElem_cons (by simpa using h)]; rfl]
 rfl
theorem Lex.known_big {c:Nat}(h:128≤c):Lex.knownI c=false:=by
 unfold Lex.knownI
 simp only [Bool.or_eq_false_iff,Bool.and_eq_false_iff,decide_eq_false_iff_not]
 omega
theorem Lex.blank_f (x:Nat):lex_sign_blank.f (x:Int)=some (Lex.blankN x):=by
 unfold lex_sign_blank.f Lex.blankN
 by_cases h:(x:Int)=32
 ·rw [if_pos h]; have:x=32:=by omega
  subst this; rfl
 ·rw [if_neg h]; have:(x == 32)=false:=by simp; omega
  rw [this]; congr 1
  by_cases h9:x=9
  ·subst h9; rfl
  ·have h1:(x == 9)=false:=by simpa using h9
   have h2:((x:Int) == 9)=false:=by simp; omega
   rw [h1,h2]; rfl
set_option maxHeartbeats 8000000 in
set_option maxRecDepth 100000 in
theorem between_pays (w:World)(B:Nat)(hB:B < w.heap.size)(hc:w.cell? ⟨B,0,none⟩=some (.func (.func 78) #[] #[])):PredAtRunes Tryz.prog 80 #[.pointer (some ⟨B,0,none⟩)] Lex.blankN w:=by
 intro W x _ hb
 have hc':=(hb.cell (p:=⟨B,0,none⟩) hB).trans hc
 have hx:=Lib.hid (Lex.blank_f x)
 unfold FnGives
 clear hc hb
 go_enter Tryz.func80,Tryz.ntmps80
 go_wp2_with (go_at_call 78; refine (lex_sign_blank.calls _ _ _ hx.out).mono ?_; rintro e w' ⟨rfl,⟨nd,rfl⟩⟩)
 go_ret
 exact ⟨rfl,_,rfl⟩
set_option maxHeartbeats 8000000 in
set_option maxRecDepth 100000 in
theorem fields_calls (s:ByteArray)(w:World)(h1:s.size≤256) :
  Calls Tryz.prog 44 #[.string s] w fun e w'=>∃ v0_:Value,e=.returned (.tuple #[v0_,.int .i64 (Lex.fields s).2])∧Kd.R Kd.string 9 w' w.heap.size (fun _=>True) v0_ (Lex.fields s).1∧Below w.heap.size w w':=by
 have e2:decide (256 < (s.size:Int))=false:=decide_eq_false (by omega)
 have e3:decide (256 < s.size)=false:=decide_eq_false (by omega)
 have HF:Hid (Lex.fields s=if Lex.knownAll s.data.toList=false then ([],2) else if (Lib.goFieldsP Lex.blankN s).length≠5 then ([],2) else (Lib.goFieldsP Lex.blankN s,0)):=Lib.hid (by unfold Lex.fields; rw [if_neg (by omega)])
 obtain ⟨X,hX⟩:∃ X,Lex.fields s=X:=⟨_,rfl⟩
 rw [hX] at HF ⊢
 clear hX
 go_enter Tryz.func44,Tryz.ntmps44
 go_wp2
 go_loopg [5] s.size (fun gf _ wr=>∃ (pos:Nat),pos+gf=s.size∧Hid (Lex.knownAll s.data.toList=Lex.knownAll (s.data.toList.drop pos))∧
   wr.heap[w.heap.size]?=some (.stringIter s pos)∧Below w.heap.size w wr)
 case atStart=>
  exact ⟨0,by omega,Lib.hid rfl,World.iter_heap w s 0,(Below.refl _ _).alloc (Nat.le_refl _) _⟩
 case round=>
  obtain ⟨pos,hg,hK,hit,hb⟩ :=hrel
  by_cases hlt:pos < s.size
  ·obtain ⟨g',rfl⟩:∃ g',gk=g'+1:=⟨gk - 1,by omega⟩
   have hnx:∀ ty,(Instr.next (.pointer (some ⟨w.heap.size,0,none⟩)) true ty).run Tryz.prog wr=_:=fun ty=>Lib.run_next_any_at wr w.heap.size s pos ty hit hlt
   have hr:=Lex.rune_at s pos hlt
   have hk:=hK.out
   rw [Lex.knownAll_drop s pos hlt] at hk
   replace hK:=Lib.hid hk
   clear hk
   obtain ⟨R,hR⟩:∃ R,(Utf8.decode s pos).1=R:=⟨_,rfl⟩
   obtain ⟨K,hKK⟩:∃ K,(Utf8.decode s pos).2=K:=⟨_,rfl⟩
   have hit2:=Lib.iterAt_heap wr w.heap.size s pos (pos+K) hit
   have hb2:=Lex.below_it hb (k:=w.heap.size) (Nat.le_refl _) s (pos+K)
   obtain ⟨W,hW⟩:∃ W,wr.iterAt w.heap.size s (pos+K)=W:=⟨_,rfl⟩
   rw [hR,hKK,hW] at hnx
   rw [hW] at hb2 hit2
   replace hW:=Lib.hid hW
   clear hit hb
   by_cases hkn:Lex.knownI (s[pos]'hlt).toNat=true
   ·have hd:Utf8.decode s pos=((s[pos]'hlt).toNat,1):=by
     rcases hr with ⟨_,h⟩ | ⟨h,_⟩
     ·exact h
     ·rw [Lex.known_big h] at hkn; simp at hkn
    rw [hd] at hR hKK
    have hcall:Hid (lex_sign_known.f 4 (R:Int)=some true):=Lib.hid (by rw [Lex.known_f _ _ (by omega),← hR]; exact congrArg some hkn)
    have hk2:=hK.out
    rw [hkn,Bool.true_and] at hk2
    replace hK:=Lib.hid hk2
    have hK1:K=1:=hKK.symm
    subst hK1
    clear hk2 hd hr
    replace hR:=Lib.hid hR
    replace hkn:=Lib.hid hkn
    go_wp2_with (go_at_call 77; refine (lex_sign_known.calls 4 _ _ _ hcall.out).mono ?_; rintro e w' ⟨rfl,⟨nd,rfl⟩⟩)
    go_roundg g'
    case measure=>omega
    case rel=>exact ⟨pos+1,by omega,hK,hit2,pw_below_drewN hb2 _⟩
   ·have hkn':Lex.knownI (s[pos]'hlt).toNat=false:=by simpa using hkn
    have hall:=hK.out
    rw [hkn',Bool.false_and] at hall
    have hv:X=([],2):=by rw [HF.out,if_pos hall]
    have hcall:Hid (lex_sign_known.f 4 (R:Int)=some false):=by
     refine Lib.hid ?_
     rw [Lex.known_f _ _ (by omega)]
     rcases hr with ⟨hl,h⟩ | ⟨h,h'⟩
     ·rw [h] at hR; rw [← hR]; exact congrArg some hkn'
     ·rw [hR] at h'; rw [Lex.known_big h']
    replace hR:=Lib.hid hR; replace hKK:=Lib.hid hKK
    replace hv:=Lib.hid hv
    clear hall hkn hkn' hr hit2
    go_wp2_with (go_at_call 77; refine (lex_sign_known.calls 4 _ _ _ hcall.out).mono ?_; rintro e w' ⟨rfl,⟨nd,rfl⟩⟩)
    go_ret2
    refine ⟨.slice none 0 0,?_,?_,pw_below_drewN hb2 _⟩
    ·rw [hv.out]; rfl
    ·rw [hv.out]; exact Kd.R_nil _ _ _ _ _
  ·have hpos:pos=s.size:=by omega
   have hnx:∀ ty,(Instr.next (.pointer (some ⟨w.heap.size,0,none⟩)) true ty).run Tryz.prog wr=_:=fun ty=>Lib.run_next_end_at wr w.heap.size s pos ty hit hlt
   have hk:=hK.out
   rw [hpos,List.drop_of_length_le (by simp)] at hk
   have HF2:=HF.out
   rw [hk,if_neg (by simp [Lex.knownAll])] at HF2
   replace HF:=Lib.hid HF2
   have hszw:=hb.size
   have hC:Hid (∀ (W:World) (B:Nat),B < W.heap.size→W.cell? ⟨B,0,none⟩=some (.func (.func 78) #[] #[])→_):=Lib.hid (fun W B h1 h2=>Lex.strings_FieldsFunc_runes 80 #[.pointer (some ⟨B,0,none⟩)] (enters_of Tryz.func80 (by kernel_rfl) rfl) Lex.blankN s W (by omega) (between_pays W B h1 h2))
   replace hpos:=Lib.hid hpos
   clear hk HF2 hK hit
   obtain ⟨L,hL⟩:∃ L,Lib.goFieldsP Lex.blankN s=L:=⟨_,rfl⟩
   rw [hL] at hC HF
   replace hL:=Lib.hid hL
   by_cases h5:L.length=5
   ·have hv:Hid (X=(L,0)):=Lib.hid (by rw [HF.out,if_neg (by omega)])
    have q1:((L.length:Int) != 5)=false:=by simp [h5]
    have q2:(L.length != 5)=false:=by simp [h5]
    replace h5:=Lib.hid h5
    go_wp2_with (go_at_call 79; refine (hC.out _ _ (by simp) (by go_simp)).mono ?_; rintro e w' ⟨A,rfl,hA,hown,hbw⟩)
    go_ret2
    refine ⟨_,by rw [hv.out]; rfl,?_,?_⟩
    ·rw [hv.out]
     exact Kd.R_lower (Kd.R_of_own hown (fun _ _=>trivial)) (by simp; omega)
    ·exact Lex.behind hbw (by simp; omega) (hb.alloc hszw _)
   ·have hv:Hid (X=([],2)):=Lib.hid (by rw [HF.out,if_pos h5])
    have q1:((L.length:Int) != 5)=true:=by simp; omega
    have q2:(L.length != 5)=true:=by simpa using h5
    replace h5:=Lib.hid h5
    go_wp2_with (go_at_call 79; refine (hC.out _ _ (by simp) (by go_simp)).mono ?_; rintro e w' ⟨A,rfl,hA,hown,hbw⟩)
    go_ret2
    refine ⟨.slice none 0 0,by rw [hv.out]; rfl,?_,?_⟩
    ·rw [hv.out]; exact Kd.R_nil _ _ _ _ _
    ·exact Lex.behind hbw (by simp; omega) (hb.alloc hszw _)
def lex_Fields.f (a0:ByteArray):Option (List ByteArray × Int):=some (Lex.fields a0)
set_option maxHeartbeats 8000000 in
set_option maxRecDepth 100000 in
theorem lex_Fields.calls (a0:ByteArray)(r1:List ByteArray)(r2:Int)(w:World)(h:lex_Fields.f a0=some (r1,r2)) :
  Calls Tryz.prog 44 #[.string a0] w fun e w'=>∃ v0_:Value,e=.returned (.tuple #[v0_,.int .i64 r2])∧Kd.R Kd.string 9 w' w.heap.size (fun _=>True) v0_ r1∧Below w.heap.size w w':=by
 obtain ⟨rfl,rfl⟩:r1=(Lex.fields a0).1∧r2=(Lex.fields a0).2:=by have:=Option.some.inj h; rw [this]; exact ⟨rfl,rfl⟩
 clear h
 by_cases h1:256 < a0.size
 ·have hv:Hid (Lex.fields a0=([],3)):=Lib.hid (by unfold Lex.fields; rw [if_pos h1])
  have e2:decide (256 < (a0.size:Int))=true:=decide_eq_true (by omega)
  have e3:decide (256 < a0.size)=true:=decide_eq_true h1
  replace h1:=Lib.hid h1
  go_enter Tryz.func44,Tryz.ntmps44
  go_wp2
  go_ret2
  refine ⟨.slice none 0 0,?_,?_,Below.refl _ _⟩
  ·rw [hv.out]; rfl
  ·rw [hv.out]; exact Kd.R_nil _ _ _ _ _
 exact fields_calls a0 w (by omega)
end Go.Proofs.YtabhfcoljgcpeaaGreatDoor.PNex
