-- Written by a program of this session (gprint.py) over the kit's print.
import Derived.Test.YtcmmmlenaahaeaaGreatDoorPShwx0
import Derived.Test.YtcmmmlenaahaeaaGreatDoorPShwx6
namespace Go.Proofs.YtcmmmlenaahaeaaGreatDoor.PShw
open Go.RowKit Go.Proofs.YtcmmmlenaahaeaaGreatDoorW.PrintWords Go.Proofs.YtcmmmlenaahaeaaGreatDoorW.PrintLast Go.Proofs.YtcmmmlenaahaeaaGreatDoorW.PrintMore
attribute [local go_sem] max2_int min2_int max_two min_two max_three min_three max_four min_four
set_option linter.unusedVariables false
set_option linter.unusedSimpArgs false
def lex_sign_blank.f (a0:Int):Option (Bool):=if a0=32 then (some true) else (some (a0 == 9))
set_option maxHeartbeats 8000000 in
set_option maxRecDepth 100000 in
theorem lex_sign_blank.calls (a0:Int)(r:Bool)(w:World)(h:lex_sign_blank.f a0=some r) :
  Calls Tryz.prog 68 #[.int .i32 a0] w fun e w'=>e=.returned (.bool r)∧Drawn0 w w':=by
 have H:(if a0=32 then (some true) else (some (a0 == 9)))=some r:=h
 clear h
 by_cases c2:a0=32
 ·rw [if_pos c2] at H
  have c2b0:(a0 == 32)=true:=beq_iff_eq.mpr c2
  have c2b1:(a0 != 32)=false:=bne_eq_false_iff_eq.mpr c2
  clear c2
  obtain rfl:=Option.some.inj H
  go_enter Tryz.func68,Tryz.ntmps68
  go_wp2
  go_ret
  exact ⟨by first | rfl | (simp; done) | (simp [*]; done),by repeat (first | exact Drawn0.refl _ | apply Drawn0.step)⟩
 ·rw [if_neg c2] at H
  have c2b0:(a0 == 32)=false:=beq_eq_false_iff_ne.mpr c2
  have c2b1:(a0 != 32)=true:=bne_iff_ne.mpr c2
  obtain rfl:=Option.some.inj H
  go_enter Tryz.func68,Tryz.ntmps68
  go_wp2
  go_ret
  exact ⟨by first | rfl | (simp; done) | (simp [*]; done),by repeat (first | exact Drawn0.refl _ | apply Drawn0.step)⟩
mutual
def lex_sign_known.j1:Nat→Int→Option (Bool)
 | 0,_=>none
 | k+1,x0=>if x0=42 then (some true) else (if x0=44 then (some true) else (if x0=45 then (some true) else (if x0=47 then (some true) else (some false))))
def lex_sign_known.j0:Nat→Int→Bool→Option (Bool)
 | 0,_,_=>none
 | k+1,x0,x3=>if x3=true then (some true) else (if x0≥65 then (if x0≤90 then (some true) else (lex_sign_known.j1 k x0)) else (lex_sign_known.j1 k x0))
end
def lex_sign_known.f (k:Nat)(a0:Int):Option (Bool):=(lex_sign_blank.f a0).bind fun t112=>(if t112=true then (some true) else ((lex_sign_digit.f a0).bind fun t113=>(if t113=true then (some true) else (if a0≥97 then (lex_sign_known.j0 k a0 (decide (a0≤122))) else (lex_sign_known.j0 k a0 false)))))
set_option maxHeartbeats 8000000 in
set_option maxRecDepth 100000 in
theorem lex_sign_known.calls (k:Nat)(a0:Int)(r:Bool)(w:World)(h:lex_sign_known.f k a0=some r) :
  Calls Tryz.prog 67 #[.int .i32 a0] w fun e w'=>e=.returned (.bool r)∧Drawn0 w w':=by
 have H:((lex_sign_blank.f a0).bind fun t112=>(if t112=true then (some true) else ((lex_sign_digit.f a0).bind fun t113=>(if t113=true then (some true) else (if a0≥97 then (lex_sign_known.j0 k a0 (decide (a0≤122))) else (lex_sign_known.j0 k a0 false))))))=some r:=h
 clear h
 have HC2:=Aside0.mk H
 clear H
 go_enter Tryz.func67,Tryz.ntmps67
 go_upto_block 0 with (fail)
 go_cut [] (fun wc=>∃ (kq:Nat),Aside0 (lex_sign_known.j1 kq a0=some r)∧Aside0 (kq≤k)∧Drawn0 w wc)
 case first=>
  have H:=HC2.out
  clear HC2
  replace H:=Option.bind_eq_some_iff.mp H
  obtain ⟨t112,A30,H⟩ :=H
  replace H:(if t112=true then (some true) else ((lex_sign_digit.f a0).bind fun t113=>(if t113=true then (some true) else (if a0≥97 then (lex_sign_known.j0 k a0 (decide (a0≤122))) else (lex_sign_known.j0 k a0 false)))))=some r:=H
  have A3:=Aside0.mk A30
  clear A30
  by_cases c4:t112=true
  ·subst c4
   have H1:(some true)=some r:=by rw [if_pos rfl] at H; exact H
   clear H
   have H:=H1
   clear H1
   obtain rfl:=Option.some.inj H
   go_wp2_with (first | ((with_reducible refine gate_callee (f:=68) rfl ?_); refine goesL_ (some 5) rfl rfl Tryz.func68 (by kernel_rfl) rfl #[.int .i32 a0] rfl (by (try simp only [List.map_toArray,List.map_cons,List.map_nil]); first | done | rfl | (simp only [List.length_drop,List.length_take]; rfl)) ?_; (with_reducible refine (lex_sign_blank.calls a0 true _ A3.out).mono ?_); rintro e w' ⟨rfl,⟨nd,rfl⟩⟩; refine ⟨_,rfl,?_⟩))
   go_ret
   exact ⟨by first | rfl | (simp; done) | (simp [*]; done),by repeat (first | exact Drawn0.refl _ | apply Drawn0.step)⟩
  ·replace c4:=Bool.eq_false_iff.mpr c4
   subst c4
   have H1:((lex_sign_digit.f a0).bind fun t113=>(if t113=true then (some true) else (if a0≥97 then (lex_sign_known.j0 k a0 (decide (a0≤122))) else (lex_sign_known.j0 k a0 false))))=some r:=by rw [if_neg (show ¬ (false=true) by decide)] at H; exact H
   clear H
   have H:=H1
   clear H1
   replace H:=Option.bind_eq_some_iff.mp H
   obtain ⟨t113,A50,H⟩ :=H
   replace H:(if t113=true then (some true) else (if a0≥97 then (lex_sign_known.j0 k a0 (decide (a0≤122))) else (lex_sign_known.j0 k a0 false)))=some r:=H
   have A5:=Aside0.mk A50
   clear A50
   by_cases c6:t113=true
   ·subst c6
    have H1:(some true)=some r:=by rw [if_pos rfl] at H; exact H
    clear H
    have H:=H1
    clear H1
    obtain rfl:=Option.some.inj H
    go_wp2_with (first | ((with_reducible refine gate_callee (f:=68) rfl ?_); refine goesL_ (some 5) rfl rfl Tryz.func68 (by kernel_rfl) rfl #[.int .i32 a0] rfl (by (try simp only [List.map_toArray,List.map_cons,List.map_nil]); first | done | rfl | (simp only [List.length_drop,List.length_take]; rfl)) ?_; (with_reducible refine (lex_sign_blank.calls a0 false _ A3.out).mono ?_); rintro e w' ⟨rfl,⟨nd,rfl⟩⟩; refine ⟨_,rfl,?_⟩) | ((with_reducible refine gate_callee (f:=92) rfl ?_); refine goesL_ (some 7) rfl rfl Tryz.func92 (by kernel_rfl) rfl #[.int .i32 a0] rfl (by (try simp only [List.map_toArray,List.map_cons,List.map_nil]); first | done | rfl | (simp only [List.length_drop,List.length_take]; rfl)) ?_; (with_reducible refine (lex_sign_digit.calls a0 true _ A5.out).mono ?_); rintro e w' ⟨rfl,⟨nd,rfl⟩⟩; refine ⟨_,rfl,?_⟩))
    go_ret
    exact ⟨by first | rfl | (simp; done) | (simp [*]; done),by repeat (first | exact Drawn0.refl _ | apply Drawn0.step)⟩
   ·replace c6:=Bool.eq_false_iff.mpr c6
    subst c6
    have H1:(if a0≥97 then (lex_sign_known.j0 k a0 (decide (a0≤122))) else (lex_sign_known.j0 k a0 false))=some r:=by rw [if_neg (show ¬ (false=true) by decide)] at H; exact H
    clear H
    have H:=H1
    clear H1
    have HC7:=Aside0.mk H
    clear H
    go_upto_region 3 with (first | ((with_reducible refine gate_callee (f:=68) rfl ?_); refine goesL_ (some 5) rfl rfl Tryz.func68 (by kernel_rfl) rfl #[.int .i32 a0] rfl (by (try simp only [List.map_toArray,List.map_cons,List.map_nil]); first | done | rfl | (simp only [List.length_drop,List.length_take]; rfl)) ?_; (with_reducible refine (lex_sign_blank.calls a0 false _ A3.out).mono ?_); rintro e w' ⟨rfl,⟨nd,rfl⟩⟩; refine ⟨_,rfl,?_⟩) | ((with_reducible refine gate_callee (f:=92) rfl ?_); refine goesL_ (some 7) rfl rfl Tryz.func92 (by kernel_rfl) rfl #[.int .i32 a0] rfl (by (try simp only [List.map_toArray,List.map_cons,List.map_nil]); first | done | rfl | (simp only [List.length_drop,List.length_take]; rfl)) ?_; (with_reducible refine (lex_sign_digit.calls a0 false _ A5.out).mono ?_); rintro e w' ⟨rfl,⟨nd,rfl⟩⟩; refine ⟨_,rfl,?_⟩))
    (try simp only [Act.put,List.setIfInBounds_toArray,List.set_cons_zero,List.set_cons_succ])
    go_cut [3] (fun v3 wc=>∃ (kq:Nat) (x3_6:Bool),v3=.bool x3_6∧Aside0 (lex_sign_known.j0 kq a0 x3_6=some r)∧Aside0 (kq≤k)∧Drawn0 w wc)
    case first=>
     have H:=HC7.out
     clear HC7
     by_cases c8:a0≥97
     ·rw [if_pos c8] at H
      have c8b0:decide (97≤a0)=true:=decide_eq_true c8
      clear c8
      (first | rw [c8b0] | (simp only [i64_w,i32_w]; rw [c8b0]) | skip)
      have H':=Aside0.mk H
      clear H
      go_wp2
      go_meet
      case rel=>exact ⟨_,(decide (a0≤122)),(by first | rfl | (simp; done) | (simp [*]; done)),H',⟨by first | omega | exact Nat.le_refl _⟩,by repeat (first | exact Drawn0.refl _ | apply Drawn0.step)⟩
     ·rw [if_neg c8] at H
      have c8b0:decide (97≤a0)=false:=decide_eq_false c8
      clear c8
      (first | rw [c8b0] | (simp only [i64_w,i32_w]; rw [c8b0]) | skip)
      have H':=Aside0.mk H
      clear H
      go_wp2
      go_meet
      case rel=>exact ⟨_,(false),(by first | rfl | (simp; done) | (simp [*]; done)),H',⟨by first | omega | exact Nat.le_refl _⟩,by repeat (first | exact Drawn0.refl _ | apply Drawn0.step)⟩
    case rest=>
     clear HC7
     try clear p2
     try clear c4
     try clear c6
     try clear c8
     try clear c8b0
     obtain ⟨kq,x3_6,rfl,HA,HJ6,⟨mc6,rfl⟩⟩ :=hcut
     cases kq with
     | zero=>exact absurd HA.out (by simp [lex_sign_known.j0])
     | succ kj6=>
      have H:=HA.out
      clear HA
      simp only [lex_sign_known.j0] at H
      by_cases c9:x3_6=true
      ·subst c9
       have H1:(some true)=some r:=by rw [if_pos rfl] at H; exact H
       clear H
       have H:=H1
       clear H1
       obtain rfl:=Option.some.inj H
       go_wp2
       go_ret
       exact ⟨by first | rfl | (simp; done) | (simp [*]; done),by repeat (first | exact Drawn0.refl _ | apply Drawn0.step)⟩
      ·replace c9:=Bool.eq_false_iff.mpr c9
       subst c9
       have H1:(if a0≥65 then (if a0≤90 then (some true) else (lex_sign_known.j1 kj6 a0)) else (lex_sign_known.j1 kj6 a0))=some r:=by rw [if_neg (show ¬ (false=true) by decide)] at H; exact H
       clear H
       have H:=H1
       clear H1
       by_cases c10:a0≥65
       ·rw [if_pos c10] at H
        have c10b0:decide (65≤a0)=true:=decide_eq_true c10
        clear c10
        by_cases c11:a0≤90
        ·rw [if_pos c11] at H
         have c11b0:decide (a0≤90)=true:=decide_eq_true c11
         clear c11
         obtain rfl:=Option.some.inj H
         go_wp2
         go_ret
         exact ⟨by first | rfl | (simp; done) | (simp [*]; done),by repeat (first | exact Drawn0.refl _ | apply Drawn0.step)⟩
        ·rw [if_neg c11] at H
         have c11b0:decide (a0≤90)=false:=decide_eq_false c11
         clear c11
         have H':=Aside0.mk H
         clear H
         go_wp2
         go_meet
         case rel=>exact ⟨_,H',⟨by have:=HJ6.out; first | omega | exact Nat.le_refl _⟩,by repeat (first | exact Drawn0.refl _ | apply Drawn0.step)⟩
       ·rw [if_neg c10] at H
        have c10b0:decide (65≤a0)=false:=decide_eq_false c10
        clear c10
        have H':=Aside0.mk H
        clear H
        go_wp2
        go_meet
        case rel=>exact ⟨_,H',⟨by have:=HJ6.out; first | omega | exact Nat.le_refl _⟩,by repeat (first | exact Drawn0.refl _ | apply Drawn0.step)⟩
 case rest=>
  clear HC2
  try clear c1
  try clear p2
  try clear c4
  try clear c6
  try clear c8
  try clear c8b0
  try clear c9
  try clear c10
  try clear c10b0
  try clear c11
  try clear c11b0
  try clear p2
  obtain ⟨kq,HA,HJ1,⟨mc1,rfl⟩⟩ :=hcut
  cases kq with
  | zero=>exact absurd HA.out (by simp [lex_sign_known.j1])
  | succ kj1=>
   have H:=HA.out
   clear HA
   simp only [lex_sign_known.j1] at H
   by_cases c12:a0=42
   ·rw [if_pos c12] at H
    have c12b0:(a0 == 42)=true:=beq_iff_eq.mpr c12
    have c12b1:(a0 != 42)=false:=bne_eq_false_iff_eq.mpr c12
    clear c12
    obtain rfl:=Option.some.inj H
    go_wp2
    go_ret
    exact ⟨by first | rfl | (simp; done) | (simp [*]; done),by repeat (first | exact Drawn0.refl _ | apply Drawn0.step)⟩
   ·rw [if_neg c12] at H
    have c12b0:(a0 == 42)=false:=beq_eq_false_iff_ne.mpr c12
    have c12b1:(a0 != 42)=true:=bne_iff_ne.mpr c12
    by_cases c13:a0=44
    ·rw [if_pos c13] at H
     have c13b0:(a0 == 44)=true:=beq_iff_eq.mpr c13
     have c13b1:(a0 != 44)=false:=bne_eq_false_iff_eq.mpr c13
     clear c13
     obtain rfl:=Option.some.inj H
     go_wp2
     go_ret
     exact ⟨by first | rfl | (simp; done) | (simp [*]; done),by repeat (first | exact Drawn0.refl _ | apply Drawn0.step)⟩
    ·rw [if_neg c13] at H
     have c13b0:(a0 == 44)=false:=beq_eq_false_iff_ne.mpr c13
     have c13b1:(a0 != 44)=true:=bne_iff_ne.mpr c13
     by_cases c14:a0=45
     ·rw [if_pos c14] at H
      have c14b0:(a0 == 45)=true:=beq_iff_eq.mpr c14
      have c14b1:(a0 != 45)=false:=bne_eq_false_iff_eq.mpr c14
      clear c14
      obtain rfl:=Option.some.inj H
      go_wp2
      go_ret
      exact ⟨by first | rfl | (simp; done) | (simp [*]; done),by repeat (first | exact Drawn0.refl _ | apply Drawn0.step)⟩
     ·rw [if_neg c14] at H
      have c14b0:(a0 == 45)=false:=beq_eq_false_iff_ne.mpr c14
      have c14b1:(a0 != 45)=true:=bne_iff_ne.mpr c14
      by_cases c15:a0=47
      ·rw [if_pos c15] at H
       have c15b0:(a0 == 47)=true:=beq_iff_eq.mpr c15
       have c15b1:(a0 != 47)=false:=bne_eq_false_iff_eq.mpr c15
       clear c15
       obtain rfl:=Option.some.inj H
       go_wp2
       go_ret
       exact ⟨by first | rfl | (simp; done) | (simp [*]; done),by repeat (first | exact Drawn0.refl _ | apply Drawn0.step)⟩
      ·rw [if_neg c15] at H
       have c15b0:(a0 == 47)=false:=beq_eq_false_iff_ne.mpr c15
       have c15b1:(a0 != 47)=true:=bne_iff_ne.mpr c15
       obtain rfl:=Option.some.inj H
       go_wp2
       go_ret
       exact ⟨by first | rfl | (simp; done) | (simp [*]; done),by repeat (first | exact Drawn0.refl _ | apply Drawn0.step)⟩
def Lex.lays229_ren:Go.Shelf.Ren:=⟨fun | 229=>69 | n=>n,fun | 9=>9 | 40=>112 | 31=>69 | 152=>140 | 3=>3 | 0=>0 | 4=>4 | 21=>21 | 154=>142 | n=>n,fun | n=>n⟩
theorem Lex.lays229:Go.Proofs.Lays.n229 Tryz.prog Lex.lays229_ren:={
 mixed:=by kernel_rfl
 f229:=Tryz.func69.trans (congrArg some (by kernel_rfl))
 t0:=Tryz.underlying0
 a0:=Tryz.isAgg0
 z0:=Tryz.sizeOf0
 v0:=Tryz.zeroValue0
 t3:=Tryz.underlying3
 a3:=Tryz.isAgg3
 z3:=Tryz.sizeOf3
 v3:=Tryz.zeroValue3
 t4:=Tryz.underlying4
 a4:=Tryz.isAgg4
 z4:=Tryz.sizeOf4
 v4:=Tryz.zeroValue4
 t9:=Tryz.underlying9
 a9:=Tryz.isAgg9
 z9:=Tryz.sizeOf9
 v9:=Tryz.zeroValue9
 t21:=Tryz.underlying21
 a21:=Tryz.isAgg21
 z21:=Tryz.sizeOf21
 v21:=Tryz.zeroValue21
 t31:=Tryz.underlying69
 a31:=Tryz.isAgg69
 z31:=Tryz.sizeOf69
 v31:=Tryz.zeroValue69
 t40:=Tryz.underlying112
 a40:=Tryz.isAgg112
 z40:=Tryz.sizeOf112
 v40:=Tryz.zeroValue112
 t152:=Tryz.underlying140
 a152:=Tryz.isAgg140
 z152:=Tryz.sizeOf140
 v152:=Tryz.zeroValue140
 t154:=Tryz.underlying142
 a154:=Tryz.isAgg142
 z154:=Tryz.sizeOf142
 v154:=Tryz.zeroValue142 }
theorem Lex.strings_FieldsFunc_runes (g:Nat)(lb:Array Value)(eg:∀ args w,(callFunc g args).run Tryz.prog w=.ok (.enter g args) w)(p:Nat→Bool)(s:ByteArray)(w:World)(hs:s.size≤4294967296)(hp:PredAtRunes Tryz.prog g lb p w) :
  Calls Tryz.prog 69 #[.string s,.func (.func g) #[] lb] w fun e w'=>∃ A,e=.returned (.slice (some ⟨A,0,none⟩) (Lib.goFieldsP p s).length (Lib.goFieldsP p s).length)∧w.heap.size≤A∧
   w'.ownsRow w.heap.size 9 1 (.slice (some ⟨A,0,none⟩) (Lib.goFieldsP p s).length (Lib.goFieldsP p s).length) (Lib.goFieldsP p s).length ((Lib.goFieldsP p s).map Value.string)∧Below w.heap.size w w':=Any.strings_FieldsFunc_runes Lex.lays229 g lb eg p s w hs hp (by kernel_rfl) (by kernel_rfl)
/-! This session's own: lex.Fields. -/
def Lex.blankN (x:Nat):Bool:=x == 32 || x == 9
def Lex.knownI (c:Int):Bool:=decide (c=32) || decide (c=9) || (decide (48≤c) && decide (c≤57)) || (decide (97≤c) && decide (c≤122)) || (decide (65≤c) && decide (c≤90)) || decide (c=42) || decide (c=44) || decide (c=45) || decide (c=47)
def Lex.knownAll (l:List UInt8):Bool:=l.all fun b=>Lex.knownI b.toNat
def Lex.fields (s:ByteArray):List ByteArray × Int:=
 if 256 < s.size then ([],3) else if Lex.knownAll s.data.toList=false then ([],2) else if (Lib.goFieldsP Lex.blankN s).length≠5 then ([],2) else (Lib.goFieldsP Lex.blankN s,0)
theorem Lex.known_j1 (c:Int)(k:Nat):lex_sign_known.j1 (k+1) c=some (decide (c=42) || decide (c=44) || decide (c=45) || decide (c=47)):=by
 simp only [lex_sign_known.j1]
 by_cases h1:c=42
 ·simp [h1]
 by_cases h2:c=44
 ·simp [h2]
 by_cases h3:c=45
 ·simp [h3]
 by_cases h4:c=47
 ·simp [h4]
 simp [h1,h2,h3,h4]
theorem Lex.known_j (c:Int)(k:Nat)(b:Bool):lex_sign_known.j0 (k+1+1) c b=some (b || (decide (65≤c) && decide (c≤90)) || (decide (c=42) || decide (c=44) || decide (c=45) || decide (c=47))):=by
 simp only [lex_sign_known.j0,Lex.known_j1]
 cases b
 ·by_cases h1:c≥65
  ·by_cases h2:c≤90
   ·simp [h1,h2]
   ·simp [h1,h2]
  ·simp [h1]
 ·simp
theorem Lex.known_f (c:Int)(k:Nat)(hk:4≤k):lex_sign_known.f k c=some (Lex.knownI c):=by
 obtain ⟨k,rfl⟩:∃ j,k=j+1+1:=⟨k - 2,by omega⟩
 unfold lex_sign_known.f lex_sign_blank.f lex_sign_digit.f Lex.knownI
 rw [Lex.known_j,Lex.known_j]
 by_cases h1:c=32
 ·simp [h1]
 by_cases h2:c=9
 ·simp [h2]
 have h2':(c == 9)=false:=by simpa using h2
 by_cases h3:c≥48
 ·by_cases h4:c≤57
  ·simp [h1,h2',h3,h4]
  ·by_cases h5:c≥97
   ·simp [h1,h2,h2',h3,h4,h5,Bool.or_assoc]
   ·simp [h1,h2,h2',h3,h4,h5,Bool.or_assoc]
 ·have h5:¬ c≥97:=by omega
  simp [h1,h2,h2',h3,h5,Bool.or_assoc]
theorem Lex.knownAll_drop (s:ByteArray)(pos:Nat)(h:pos < s.size):Lex.knownAll (s.data.toList.drop pos)=(Lex.knownI (s[pos]'h).toNat && Lex.knownAll (s.data.toList.drop (pos+1))):=by
 rw [show s.data.toList.drop pos=(s[pos]'h) :: s.data.toList.drop (pos+1) by rw [List.drop_eq_getElem_cons (by simpa using h)]; rfl]
 rfl
theorem Lex.known_big {c:Nat}(h:128≤c):Lex.knownI c=false:=by
 unfold Lex.knownI
 simp only [Bool.or_eq_false_iff,Bool.and_eq_false_iff,decide_eq_false_iff_not]
 omega
theorem Lex.blank_f (x:Nat):lex_sign_blank.f (x:Int)=some (Lex.blankN x):=by
 unfold lex_sign_blank.f Lex.blankN
 by_cases h:(x:Int)=32
 ·rw [if_pos h]; have:x=32:=by omega
  subst this; rfl
 ·rw [if_neg h]; have:(x == 32)=false:=by simp; omega
  rw [this]; congr 1
  by_cases h9:x=9
  ·subst h9; rfl
  ·have h1:(x == 9)=false:=by simpa using h9
   have h2:((x:Int) == 9)=false:=by simp; omega
   rw [h1,h2]; rfl
set_option maxHeartbeats 8000000 in
set_option maxRecDepth 100000 in
theorem between_pays (w:World)(B:Nat)(hB:B < w.heap.size)(hc:w.cell? ⟨B,0,none⟩=some (.func (.func 68) #[] #[])):PredAtRunes Tryz.prog 70 #[.pointer (some ⟨B,0,none⟩)] Lex.blankN w:=by
 intro W x _ hb
 have hc':=(hb.cell (p:=⟨B,0,none⟩) hB).trans hc
 have hx:=Lib.hid (Lex.blank_f x)
 unfold FnGives
 clear hc hb
 go_enter Tryz.func70,Tryz.ntmps70
 go_wp2_with (go_at_call 68; refine (lex_sign_blank.calls _ _ _ hx.out).mono ?_; rintro e w' ⟨rfl,⟨nd,rfl⟩⟩)
 go_ret
 exact ⟨rfl,_,rfl⟩
set_option maxHeartbeats 8000000 in
set_option maxRecDepth 100000 in
theorem fields_calls (s:ByteArray)(w:World)(h1:s.size≤256) :
  Calls Tryz.prog 42 #[.string s] w fun e w'=>∃ v0_:Value,e=.returned (.tuple #[v0_,.int .i64 (Lex.fields s).2])∧Kd.R Kd.string 9 w' w.heap.size (fun _=>True) v0_ (Lex.fields s).1∧Below w.heap.size w w':=by
 have e2:decide (256 < (s.size:Int))=false:=decide_eq_false (by omega)
 have e3:decide (256 < s.size)=false:=decide_eq_false (by omega)
 have HF:Hid (Lex.fields s=if Lex.knownAll s.data.toList=false then ([],2) else if (Lib.goFieldsP Lex.blankN s).length≠5 then ([],2) else (Lib.goFieldsP Lex.blankN s,0)):=Lib.hid (by unfold Lex.fields; rw [if_neg (by omega)])
 obtain ⟨X,hX⟩:∃ X,Lex.fields s=X:=⟨_,rfl⟩
 rw [hX] at HF ⊢
 clear hX
 go_enter Tryz.func42,Tryz.ntmps42
 go_wp2
 go_loopg [5] s.size (fun gf _ wr=>∃ (pos:Nat),pos+gf=s.size∧Hid (Lex.knownAll s.data.toList=Lex.knownAll (s.data.toList.drop pos))∧
   wr.heap[w.heap.size]?=some (.stringIter s pos)∧Below w.heap.size w wr)
 case atStart=>
  exact ⟨0,by omega,Lib.hid rfl,World.iter_heap w s 0,(Below.refl _ _).alloc (Nat.le_refl _) _⟩
 case round=>
  obtain ⟨pos,hg,hK,hit,hb⟩ :=hrel
  by_cases hlt:pos < s.size
  ·obtain ⟨g',rfl⟩:∃ g',gk=g'+1:=⟨gk - 1,by omega⟩
   have hnx:∀ ty,(Instr.next (.pointer (some ⟨w.heap.size,0,none⟩)) true ty).run Tryz.prog wr=_:=fun ty=>Lib.run_next_any_at wr w.heap.size s pos ty hit hlt
   have hr:=Lex.rune_at s pos hlt
   have hk:=hK.out
   rw [Lex.knownAll_drop s pos hlt] at hk
   replace hK:=Lib.hid hk
   clear hk
   obtain ⟨R,hR⟩:∃ R,(Utf8.decode s pos).1=R:=⟨_,rfl⟩
   obtain ⟨K,hKK⟩:∃ K,(Utf8.decode s pos).2=K:=⟨_,rfl⟩
   have hit2:=Lib.iterAt_heap wr w.heap.size s pos (pos+K) hit
   have hb2:=Lex.below_it hb (k:=w.heap.size) (Nat.le_refl _) s (pos+K)
   obtain ⟨W,hW⟩:∃ W,wr.iterAt w.heap.size s (pos+K)=W:=⟨_,rfl⟩
   rw [hR,hKK,hW] at hnx
   rw [hW] at hb2 hit2
   replace hW:=Lib.hid hW
   clear hit hb
   by_cases hkn:Lex.knownI (s[pos]'hlt).toNat=true
   ·have hd:Utf8.decode s pos=((s[pos]'hlt).toNat,1):=by
     rcases hr with ⟨_,h⟩ | ⟨h,_⟩
     ·exact h
     ·rw [Lex.known_big h] at hkn; simp at hkn
    rw [hd] at hR hKK
    have hcall:Hid (lex_sign_known.f 4 (R:Int)=some true):=Lib.hid (by rw [Lex.known_f _ _ (by omega),← hR]; exact congrArg some hkn)
    have hk2:=hK.out
    rw [hkn,Bool.true_and] at hk2
    replace hK:=Lib.hid hk2
    have hK1:K=1:=hKK.symm
    subst hK1
    clear hk2 hd hr
    replace hR:=Lib.hid hR
    replace hkn:=Lib.hid hkn
    go_wp2_with (go_at_call 67; refine (lex_sign_known.calls 4 _ _ _ hcall.out).mono ?_; rintro e w' ⟨rfl,⟨nd,rfl⟩⟩)
    go_roundg g'
    case measure=>omega
    case rel=>exact ⟨pos+1,by omega,hK,hit2,pw_below_drewN hb2 _⟩
   ·have hkn':Lex.knownI (s[pos]'hlt).toNat=false:=by simpa using hkn
    have hall:=hK.out
    rw [hkn',Bool.false_and] at hall
    have hv:X=([],2):=by rw [HF.out,if_pos hall]
    have hcall:Hid (lex_sign_known.f 4 (R:Int)=some false):=by
     refine Lib.hid ?_
     rw [Lex.known_f _ _ (by omega)]
     rcases hr with ⟨hl,h⟩ | ⟨h,h'⟩
     ·rw [h] at hR; rw [← hR]; exact congrArg some hkn'
     ·rw [hR] at h'; rw [Lex.known_big h']
    replace hR:=Lib.hid hR; replace hKK:=Lib.hid hKK
    replace hv:=Lib.hid hv
    clear hall hkn hkn' hr hit2
    go_wp2_with (go_at_call 67; refine (lex_sign_known.calls 4 _ _ _ hcall.out).mono ?_; rintro e w' ⟨rfl,⟨nd,rfl⟩⟩)
    go_ret2
    refine ⟨.slice none 0 0,?_,?_,pw_below_drewN hb2 _⟩
    ·rw [hv.out]; rfl
    ·rw [hv.out]; exact Kd.R_nil _ _ _ _ _
  ·have hpos:pos=s.size:=by omega
   have hnx:∀ ty,(Instr.next (.pointer (some ⟨w.heap.size,0,none⟩)) true ty).run Tryz.prog wr=_:=fun ty=>Lib.run_next_end_at wr w.heap.size s pos ty hit hlt
   have hk:=hK.out
   rw [hpos,List.drop_of_length_le (by simp)] at hk
   have HF2:=HF.out
   rw [hk,if_neg (by simp [Lex.knownAll])] at HF2
   replace HF:=Lib.hid HF2
   have hszw:=hb.size
   have hC:Hid (∀ (W:World) (B:Nat),B < W.heap.size→W.cell? ⟨B,0,none⟩=some (.func (.func 68) #[] #[])→_):=Lib.hid (fun W B h1 h2=>Lex.strings_FieldsFunc_runes 70 #[.pointer (some ⟨B,0,none⟩)] (enters_of Tryz.func70 (by kernel_rfl) rfl) Lex.blankN s W (by omega) (between_pays W B h1 h2))
   replace hpos:=Lib.hid hpos
   clear hk HF2 hK hit
   obtain ⟨L,hL⟩:∃ L,Lib.goFieldsP Lex.blankN s=L:=⟨_,rfl⟩
   rw [hL] at hC HF
   replace hL:=Lib.hid hL
   by_cases h5:L.length=5
   ·have hv:Hid (X=(L,0)):=Lib.hid (by rw [HF.out,if_neg (by omega)])
    have q1:((L.length:Int) != 5)=false:=by simp [h5]
    have q2:(L.length != 5)=false:=by simp [h5]
    replace h5:=Lib.hid h5
    go_wp2_with (go_at_call 69; refine (hC.out _ _ (by simp) (by go_simp)).mono ?_; rintro e w' ⟨A,rfl,hA,hown,hbw⟩)
    go_ret2
    refine ⟨_,by rw [hv.out]; rfl,?_,?_⟩
    ·rw [hv.out]
     exact Kd.R_lower (Kd.R_of_own hown (fun _ _=>trivial)) (by simp; omega)
    ·exact Lex.behind hbw (by simp; omega) (hb.alloc hszw _)
   ·have hv:Hid (X=([],2)):=Lib.hid (by rw [HF.out,if_pos h5])
    have q1:((L.length:Int) != 5)=true:=by simp; omega
    have q2:(L.length != 5)=true:=by simpa using h5
    replace h5:=Lib.hid h5
    go_wp2_with (go_at_call 69; refine (hC.out _ _ (by simp) (by go_simp)).mono ?_; rintro e w' ⟨A,rfl,hA,hown,hbw⟩)
    go_ret2
    refine ⟨.slice none 0 0,by rw [hv.out]; rfl,?_,?_⟩
    ·rw [hv.out]; exact Kd.R_nil _ _ _ _ _
    ·exact Lex.behind hbw (by simp; omega) (hb.alloc hszw _)
def lex_Fields.f (a0:ByteArray):Option (List ByteArray × Int):=some (Lex.fields a0)
set_option maxHeartbeats 8000000 in
set_option maxRecDepth 100000 in
theorem lex_Fields.calls (a0:ByteArray)(r1:List ByteArray)(r2:Int)(w:World)(h:lex_Fields.f a0=some (r1,r2)) :
  Calls Tryz.prog 42 #[.string a0] w fun e w'=>∃ v0_:Value,e=.returned (.tuple #[v0_,.int .i64 r2])∧Kd.R Kd.string 9 w' w.heap.size (fun _=>True) v0_ r1∧Below w.heap.size w w':=by
 obtain ⟨rfl,rfl⟩:r1=(Lex.fields a0).1∧r2=(Lex.fields a0).2:=by have:=Option.some.inj h; rw [this]; exact ⟨rfl,rfl⟩
 clear h
 by_cases h1:256 < a0.size
 ·have hv:Hid (Lex.fields a0=([],3)):=Lib.hid (by unfold Lex.fields; rw [if_pos h1])
  have e2:decide (256 < (a0.size:Int))=true:=decide_eq_true (by omega)
  have e3:decide (256 < a0.size)=true:=decide_eq_true h1
  replace h1:=Lib.hid h1
  go_enter Tryz.func42,Tryz.ntmps42
  go_wp2
  go_ret2
  refine ⟨.slice none 0 0,?_,?_,Below.refl _ _⟩
  ·rw [hv.out]; rfl
  ·rw [hv.out]; exact Kd.R_nil _ _ _ _ _
 exact fields_calls a0 w (by omega)
end Go.Proofs.YtcmmmlenaahaeaaGreatDoor.PShw
