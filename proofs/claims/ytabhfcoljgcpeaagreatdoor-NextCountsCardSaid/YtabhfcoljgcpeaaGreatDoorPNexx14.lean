-- Written by a program of this session (gprint.py) over the kit's print.
import Derived.Test.YtabhfcoljgcpeaaGreatDoorPNexx0
import Derived.Test.YtabhfcoljgcpeaaGreatDoorPNexx1
import Derived.Test.YtabhfcoljgcpeaaGreatDoorPNexx13
namespace Go.Proofs.YtabhfcoljgcpeaaGreatDoor.PNex
open Go.RowKit Go.Proofs.YtabhfcoljgcpeaaGreatDoorW.PrintWords Go.Proofs.YtabhfcoljgcpeaaGreatDoorW.PrintLast Go.Proofs.YtabhfcoljgcpeaaGreatDoorW.PrintMore
attribute [local go_sem] max2_int min2_int max_two min_two max_three min_three max_four min_four
set_option linter.unusedVariables false
set_option linter.unusedSimpArgs false
def complineref16_Leap.f (a0:Int):Option (Bool):=if (Int.tmod a0 400)=0 then (some true) else (if (Int.tmod a0 4)=0 then (some ((Int.tmod a0 100) != 0)) else (some false))
set_option maxHeartbeats 8000000 in
set_option maxRecDepth 100000 in
theorem complineref16_Leap.calls (a0:Int)(r:Bool)(w:World)(h:complineref16_Leap.f a0=some r) :
  Calls Tryz.prog 96 #[.int .i64 a0] w fun e w'=>e=.returned (.bool r)∧Drawn0 w w':=by
 have H:(if (Int.tmod a0 400)=0 then (some true) else (if (Int.tmod a0 4)=0 then (some ((Int.tmod a0 100) != 0)) else (some false)))=some r:=h
 clear h
 by_cases c2:(Int.tmod a0 400)=0
 ·rw [if_pos c2] at H
  have c2b0:((Int.tmod a0 400) == 0)=true:=beq_iff_eq.mpr c2
  have c2b1:((Int.tmod a0 400) != 0)=false:=bne_eq_false_iff_eq.mpr c2
  clear c2
  obtain rfl:=Option.some.inj H
  go_enter Tryz.func96,Tryz.ntmps96
  go_wp2
  go_ret
  exact ⟨by first | rfl | (simp; done) | (simp [*]; done),by repeat (first | exact Drawn0.refl _ | apply Drawn0.step)⟩
 ·rw [if_neg c2] at H
  have c2b0:((Int.tmod a0 400) == 0)=false:=beq_eq_false_iff_ne.mpr c2
  have c2b1:((Int.tmod a0 400) != 0)=true:=bne_iff_ne.mpr c2
  by_cases c3:(Int.tmod a0 4)=0
  ·rw [if_pos c3] at H
   have c3b0:((Int.tmod a0 4) == 0)=true:=beq_iff_eq.mpr c3
   have c3b1:((Int.tmod a0 4) != 0)=false:=bne_eq_false_iff_eq.mpr c3
   clear c3
   obtain rfl:=Option.some.inj H
   go_enter Tryz.func96,Tryz.ntmps96
   go_wp2
   go_ret
   exact ⟨by first | rfl | (simp; done) | (simp [*]; done),by repeat (first | exact Drawn0.refl _ | apply Drawn0.step)⟩
  ·rw [if_neg c3] at H
   have c3b0:((Int.tmod a0 4) == 0)=false:=beq_eq_false_iff_ne.mpr c3
   have c3b1:((Int.tmod a0 4) != 0)=true:=bne_iff_ne.mpr c3
   obtain rfl:=Option.some.inj H
   go_enter Tryz.func96,Tryz.ntmps96
   go_wp2
   go_ret
   exact ⟨by first | rfl | (simp; done) | (simp [*]; done),by repeat (first | exact Drawn0.refl _ | apply Drawn0.step)⟩
def complineref16_Length.j0:Nat→Int→Int→Bool→Option (Int)
 | 0,_,_,_=>none
 | k+1,x0,x1,x10=>if x10=true then (some 0) else (if x1=2 then ((complineref16_Leap.f x0).bind fun t190=>(if t190=true then (some 29) else (some 28))) else (if x1=4 then (some 30) else (if x1=6 then (some 30) else (if x1=9 then (some 30) else (if x1=11 then (some 30) else (some 31))))))
def complineref16_Length.f (k:Nat)(a0:Int)(a1:Int):Option (Int):=if a1 < 1 then (complineref16_Length.j0 k a0 a1 true) else (complineref16_Length.j0 k a0 a1 (decide (a1 > 12)))
set_option maxHeartbeats 8000000 in
set_option maxRecDepth 100000 in
theorem complineref16_Length.calls (k:Nat)(a0:Int)(a1:Int)(r:Int)(w:World)(h:complineref16_Length.f k a0 a1=some r) :
  Calls Tryz.prog 55 #[.int .i64 a0,.int .i64 a1] w fun e w'=>e=.returned (.int .i64 r)∧Drawn0 w w':=by
 have H:(if a1 < 1 then (complineref16_Length.j0 k a0 a1 true) else (complineref16_Length.j0 k a0 a1 (decide (a1 > 12))))=some r:=h
 clear h
 have HC3:=Aside0.mk H
 clear H
 go_enter Tryz.func55,Tryz.ntmps55
 go_upto_region 1 with (fail)
 go_cut [10] (fun v10 wc=>∃ (kq:Nat) (x10_2:Bool),v10=.bool x10_2∧Aside0 (complineref16_Length.j0 kq a0 a1 x10_2=some r)∧Aside0 (kq≤k)∧Drawn0 w wc)
 case first=>
  have H:=HC3.out
  clear HC3
  by_cases c4:a1 < 1
  ·rw [if_pos c4] at H
   have c4b0:decide (a1 < 1)=true:=decide_eq_true c4
   clear c4
   (first | rw [c4b0] | (simp only [i64_w,i32_w]; rw [c4b0]) | skip)
   have H':=Aside0.mk H
   clear H
   go_wp2
   go_meet
   case rel=>exact ⟨_,(true),(by first | rfl | (simp; done) | (simp [*]; done)),H',⟨by first | omega | exact Nat.le_refl _⟩,by repeat (first | exact Drawn0.refl _ | apply Drawn0.step)⟩
  ·rw [if_neg c4] at H
   have c4b0:decide (a1 < 1)=false:=decide_eq_false c4
   clear c4
   (first | rw [c4b0] | (simp only [i64_w,i32_w]; rw [c4b0]) | skip)
   have H':=Aside0.mk H
   clear H
   go_wp2
   go_meet
   case rel=>exact ⟨_,(decide (a1 > 12)),(by first | rfl | (simp; done) | (simp [*]; done)),H',⟨by first | omega | exact Nat.le_refl _⟩,by repeat (first | exact Drawn0.refl _ | apply Drawn0.step)⟩
 case rest=>
  clear HC3
  try clear p2
  try clear c4
  try clear c4b0
  obtain ⟨kq,x10_2,rfl,HA,HJ2,⟨mc2,rfl⟩⟩ :=hcut
  cases kq with
  | zero=>exact absurd HA.out (by simp [complineref16_Length.j0])
  | succ kj2=>
   have H:=HA.out
   clear HA
   simp only [complineref16_Length.j0] at H
   by_cases c5:x10_2=true
   ·subst c5
    have H1:(some 0)=some r:=by rw [if_pos rfl] at H; exact H
    clear H
    have H:=H1
    clear H1
    obtain rfl:=Option.some.inj H
    go_wp2
    go_ret
    exact ⟨by first | rfl | (simp; done) | (simp [*]; done),by repeat (first | exact Drawn0.refl _ | apply Drawn0.step)⟩
   ·replace c5:=Bool.eq_false_iff.mpr c5
    subst c5
    have H1:(if a1=2 then ((complineref16_Leap.f a0).bind fun t190=>(if t190=true then (some 29) else (some 28))) else (if a1=4 then (some 30) else (if a1=6 then (some 30) else (if a1=9 then (some 30) else (if a1=11 then (some 30) else (some 31))))))=some r:=by rw [if_neg (show ¬ (false=true) by decide)] at H; exact H
    clear H
    have H:=H1
    clear H1
    by_cases c6:a1=2
    ·rw [if_pos c6] at H
     have c6b0:(a1 == 2)=true:=beq_iff_eq.mpr c6
     have c6b1:(a1 != 2)=false:=bne_eq_false_iff_eq.mpr c6
     clear c6
     replace H:=Option.bind_eq_some_iff.mp H
     obtain ⟨t190,A70,H⟩ :=H
     replace H:(if t190=true then (some 29) else (some 28))=some r:=H
     have A7:=Aside0.mk A70
     clear A70
     by_cases c8:t190=true
     ·subst c8
      have H1:(some 29)=some r:=by rw [if_pos rfl] at H; exact H
      clear H
      have H:=H1
      clear H1
      obtain rfl:=Option.some.inj H
      go_wp2_with (first | ((with_reducible refine gate_callee (f:=96) rfl ?_); refine goesL_ (some 14) rfl rfl Tryz.func96 (by kernel_rfl) rfl #[.int .i64 a0] rfl (by (try simp only [List.map_toArray,List.map_cons,List.map_nil]); first | done | rfl | (simp only [List.length_drop,List.length_take]; rfl)) ?_; (with_reducible refine (complineref16_Leap.calls a0 true _ A7.out).mono ?_); rintro e w' ⟨rfl,⟨nd,rfl⟩⟩; refine ⟨_,rfl,?_⟩))
      go_ret
      exact ⟨by first | rfl | (simp; done) | (simp [*]; done),by repeat (first | exact Drawn0.refl _ | apply Drawn0.step)⟩
     ·replace c8:=Bool.eq_false_iff.mpr c8
      subst c8
      have H1:(some 28)=some r:=by rw [if_neg (show ¬ (false=true) by decide)] at H; exact H
      clear H
      have H:=H1
      clear H1
      obtain rfl:=Option.some.inj H
      go_wp2_with (first | ((with_reducible refine gate_callee (f:=96) rfl ?_); refine goesL_ (some 14) rfl rfl Tryz.func96 (by kernel_rfl) rfl #[.int .i64 a0] rfl (by (try simp only [List.map_toArray,List.map_cons,List.map_nil]); first | done | rfl | (simp only [List.length_drop,List.length_take]; rfl)) ?_; (with_reducible refine (complineref16_Leap.calls a0 false _ A7.out).mono ?_); rintro e w' ⟨rfl,⟨nd,rfl⟩⟩; refine ⟨_,rfl,?_⟩))
      go_ret
      exact ⟨by first | rfl | (simp; done) | (simp [*]; done),by repeat (first | exact Drawn0.refl _ | apply Drawn0.step)⟩
    ·rw [if_neg c6] at H
     have c6b0:(a1 == 2)=false:=beq_eq_false_iff_ne.mpr c6
     have c6b1:(a1 != 2)=true:=bne_iff_ne.mpr c6
     by_cases c9:a1=4
     ·rw [if_pos c9] at H
      have c9b0:(a1 == 4)=true:=beq_iff_eq.mpr c9
      have c9b1:(a1 != 4)=false:=bne_eq_false_iff_eq.mpr c9
      clear c9
      obtain rfl:=Option.some.inj H
      go_wp2
      go_ret
      exact ⟨by first | rfl | (simp; done) | (simp [*]; done),by repeat (first | exact Drawn0.refl _ | apply Drawn0.step)⟩
     ·rw [if_neg c9] at H
      have c9b0:(a1 == 4)=false:=beq_eq_false_iff_ne.mpr c9
      have c9b1:(a1 != 4)=true:=bne_iff_ne.mpr c9
      by_cases c10:a1=6
      ·rw [if_pos c10] at H
       have c10b0:(a1 == 6)=true:=beq_iff_eq.mpr c10
       have c10b1:(a1 != 6)=false:=bne_eq_false_iff_eq.mpr c10
       clear c10
       obtain rfl:=Option.some.inj H
       go_wp2
       go_ret
       exact ⟨by first | rfl | (simp; done) | (simp [*]; done),by repeat (first | exact Drawn0.refl _ | apply Drawn0.step)⟩
      ·rw [if_neg c10] at H
       have c10b0:(a1 == 6)=false:=beq_eq_false_iff_ne.mpr c10
       have c10b1:(a1 != 6)=true:=bne_iff_ne.mpr c10
       by_cases c11:a1=9
       ·rw [if_pos c11] at H
        have c11b0:(a1 == 9)=true:=beq_iff_eq.mpr c11
        have c11b1:(a1 != 9)=false:=bne_eq_false_iff_eq.mpr c11
        clear c11
        obtain rfl:=Option.some.inj H
        go_wp2
        go_ret
        exact ⟨by first | rfl | (simp; done) | (simp [*]; done),by repeat (first | exact Drawn0.refl _ | apply Drawn0.step)⟩
       ·rw [if_neg c11] at H
        have c11b0:(a1 == 9)=false:=beq_eq_false_iff_ne.mpr c11
        have c11b1:(a1 != 9)=true:=bne_iff_ne.mpr c11
        by_cases c12:a1=11
        ·rw [if_pos c12] at H
         have c12b0:(a1 == 11)=true:=beq_iff_eq.mpr c12
         have c12b1:(a1 != 11)=false:=bne_eq_false_iff_eq.mpr c12
         clear c12
         obtain rfl:=Option.some.inj H
         go_wp2
         go_ret
         exact ⟨by first | rfl | (simp; done) | (simp [*]; done),by repeat (first | exact Drawn0.refl _ | apply Drawn0.step)⟩
        ·rw [if_neg c12] at H
         have c12b0:(a1 == 11)=false:=beq_eq_false_iff_ne.mpr c12
         have c12b1:(a1 != 11)=true:=bne_iff_ne.mpr c12
         obtain rfl:=Option.some.inj H
         go_wp2
         go_ret
         exact ⟨by first | rfl | (simp; done) | (simp [*]; done),by repeat (first | exact Drawn0.refl _ | apply Drawn0.step)⟩
def complineref16_days.f (a0:Int):Option (Int):=(complineref16_Leap.f a0).bind fun t191=>(if t191=true then (some 366) else (some 365))
set_option maxHeartbeats 8000000 in
set_option maxRecDepth 100000 in
theorem complineref16_days.calls (a0:Int)(r:Int)(w:World)(h:complineref16_days.f a0=some r) :
  Calls Tryz.prog 95 #[.int .i64 a0] w fun e w'=>e=.returned (.int .i64 r)∧Drawn0 w w':=by
 have H:((complineref16_Leap.f a0).bind fun t191=>(if t191=true then (some 366) else (some 365)))=some r:=h
 clear h
 replace H:=Option.bind_eq_some_iff.mp H
 obtain ⟨t191,A20,H⟩ :=H
 replace H:(if t191=true then (some 366) else (some 365))=some r:=H
 have A2:=Aside0.mk A20
 clear A20
 by_cases c3:t191=true
 ·subst c3
  have H1:(some 366)=some r:=by rw [if_pos rfl] at H; exact H
  clear H
  have H:=H1
  clear H1
  obtain rfl:=Option.some.inj H
  go_enter Tryz.func95,Tryz.ntmps95
  go_wp2_with (first | ((with_reducible refine gate_callee (f:=96) rfl ?_); refine goesL_ (some 4) rfl rfl Tryz.func96 (by kernel_rfl) rfl #[.int .i64 a0] rfl (by (try simp only [List.map_toArray,List.map_cons,List.map_nil]); first | done | rfl | (simp only [List.length_drop,List.length_take]; rfl)) ?_; (with_reducible refine (complineref16_Leap.calls a0 true _ A2.out).mono ?_); rintro e w' ⟨rfl,⟨nd,rfl⟩⟩; refine ⟨_,rfl,?_⟩))
  go_ret
  exact ⟨by first | rfl | (simp; done) | (simp [*]; done),by repeat (first | exact Drawn0.refl _ | apply Drawn0.step)⟩
 ·replace c3:=Bool.eq_false_iff.mpr c3
  subst c3
  have H1:(some 365)=some r:=by rw [if_neg (show ¬ (false=true) by decide)] at H; exact H
  clear H
  have H:=H1
  clear H1
  obtain rfl:=Option.some.inj H
  go_enter Tryz.func95,Tryz.ntmps95
  go_wp2_with (first | ((with_reducible refine gate_callee (f:=96) rfl ?_); refine goesL_ (some 4) rfl rfl Tryz.func96 (by kernel_rfl) rfl #[.int .i64 a0] rfl (by (try simp only [List.map_toArray,List.map_cons,List.map_nil]); first | done | rfl | (simp only [List.length_drop,List.length_take]; rfl)) ?_; (with_reducible refine (complineref16_Leap.calls a0 false _ A2.out).mono ?_); rintro e w' ⟨rfl,⟨nd,rfl⟩⟩; refine ⟨_,rfl,?_⟩))
  go_ret
  exact ⟨by first | rfl | (simp; done) | (simp [*]; done),by repeat (first | exact Drawn0.refl _ | apply Drawn0.step)⟩
mutual
def complineref16_Date.j0:Nat→Int→Bool→Option (Int × Int × Int × Int)
 | 0,_,_=>none
 | k+1,x0,x13=>if x13=true then (some (0,0,0,1)) else (complineref16_Date.l0 k x0 1970 1)
def complineref16_Date.l0:Nat→Int→Int→Int→Option (Int × Int × Int × Int)
 | 0,_,_,_=>none
 | k+1,x0,x6,x7=>(complineref16_days.f x6).bind fun t192=>(if x0≥t192 then ((complineref16_days.f x6).bind fun t193=>(complineref16_Date.l0 k (wrap64 (x0 - t193)) (wrap64 (x6+1)) x7)) else (complineref16_Date.l1 k x0 x6 x7))
def complineref16_Date.l1:Nat→Int→Int→Int→Option (Int × Int × Int × Int)
 | 0,_,_,_=>none
 | k+1,x0,x6,x7=>(complineref16_Length.f k x6 x7).bind fun t194=>(if x0≥t194 then ((complineref16_Length.f k x6 x7).bind fun t195=>(complineref16_Date.l1 k (wrap64 (x0 - t195)) x6 (wrap64 (x7+1)))) else (some (x6,x7,wrap64 (x0+1),0)))
end
def complineref16_Date.f (k:Nat)(a0:Int):Option (Int × Int × Int × Int):=if a0 < 0 then (complineref16_Date.j0 k a0 true) else (complineref16_Date.j0 k a0 (decide (a0 > 376199)))
set_option maxHeartbeats 8000000 in
set_option maxRecDepth 100000 in
theorem complineref16_Date.calls (k:Nat)(a0:Int)(r1:Int)(r2:Int)(r3:Int)(r4:Int)(w:World)(h:complineref16_Date.f k a0=some (r1,r2,r3,r4)) :
  Calls Tryz.prog 54 #[.int .i64 a0] w fun e w'=>e=.returned (.tuple #[.int .i64 r1,.int .i64 r2,.int .i64 r3,.int .i64 r4])∧Drawn0 w w':=by
 have H:(if a0 < 0 then (complineref16_Date.j0 k a0 true) else (complineref16_Date.j0 k a0 (decide (a0 > 376199))))=some (r1,r2,r3,r4):=h
 clear h
 have HC2:=Aside0.mk H
 clear H
 go_enter Tryz.func54,Tryz.ntmps54
 go_upto_region 1 with (fail)
 go_cut [13] (fun v13 wc=>∃ (kq:Nat) (x13_1:Bool),v13=.bool x13_1∧Aside0 (complineref16_Date.j0 kq a0 x13_1=some (r1,r2,r3,r4))∧Aside0 (kq≤k)∧Drawn0 w wc)
 case first=>
  have H:=HC2.out
  clear HC2
  by_cases c3:a0 < 0
  ·rw [if_pos c3] at H
   have c3b0:decide (a0 < 0)=true:=decide_eq_true c3
   clear c3
   (first | rw [c3b0] | (simp only [i64_w,i32_w]; rw [c3b0]) | skip)
   have H':=Aside0.mk H
   clear H
   go_wp2
   go_meet
   case rel=>exact ⟨_,(true),(by first | rfl | (simp; done) | (simp [*]; done)),H',⟨by first | omega | exact Nat.le_refl _⟩,by repeat (first | exact Drawn0.refl _ | apply Drawn0.step)⟩
  ·rw [if_neg c3] at H
   have c3b0:decide (a0 < 0)=false:=decide_eq_false c3
   clear c3
   (first | rw [c3b0] | (simp only [i64_w,i32_w]; rw [c3b0]) | skip)
   have H':=Aside0.mk H
   clear H
   go_wp2
   go_meet
   case rel=>exact ⟨_,(decide (a0 > 376199)),(by first | rfl | (simp; done) | (simp [*]; done)),H',⟨by first | omega | exact Nat.le_refl _⟩,by repeat (first | exact Drawn0.refl _ | apply Drawn0.step)⟩
 case rest=>
  clear HC2
  try clear p2
  try clear c3
  try clear c3b0
  obtain ⟨kq,x13_1,rfl,HA,HJ1,⟨mc1,rfl⟩⟩ :=hcut
  cases kq with
  | zero=>exact absurd HA.out (by simp [complineref16_Date.j0])
  | succ kj1=>
   have H:=HA.out
   clear HA
   simp only [complineref16_Date.j0] at H
   by_cases c4:x13_1=true
   ·subst c4
    have H1:(some (0,0,0,1))=some (r1,r2,r3,r4):=by rw [if_pos rfl] at H; exact H
    clear H
    have H:=H1
    clear H1
    simp only [Option.some.injEq,Prod.mk.injEq] at H
    obtain ⟨rfl,rfl,rfl,rfl⟩ :=H
    go_wp2
    refine bodyPost_ret (results_list (rs:=[.tmp 2,.tmp 3,.tmp 4,.tmp 5]) rfl (by simp) (.tmp (.tmp (.tmp (.tmp .nil))))) rfl ?_
    exact ⟨by first | rfl | (simp; done) | (simp [*]; done),by repeat (first | exact Drawn0.refl _ | apply Drawn0.step)⟩
   ·replace c4:=Bool.eq_false_iff.mpr c4
    subst c4
    have H1:(complineref16_Date.l0 kj1 a0 1970 1)=some (r1,r2,r3,r4):=by rw [if_neg (show ¬ (false=true) by decide)] at H; exact H
    clear H
    have H:=H1
    clear H1
    have H':=Aside0.mk H
    clear H
    go_wp2
    go_loopg [0,6] kj1 (fun kq v0 v6 w'=>∃ (x0_2:Int) (x6_2:Int),v0=.int .i64 x0_2∧v6=.int .i64 x6_2∧Aside0 (complineref16_Date.l0 kq x0_2 x6_2 1=some (r1,r2,r3,r4))∧Aside0 (kq≤kj1)∧Drawn0 w w')
    case atStart=>exact ⟨(a0),(1970),(by first | rfl | (simp; done) | (simp [*]; done)),(by first | rfl | (simp; done) | (simp [*]; done)),H',⟨Nat.le_refl _⟩,by repeat (first | exact Drawn0.refl _ | apply Drawn0.step)⟩
    case round=>
     clear H'
     try clear c1
     try clear p2
     try clear c3
     try clear c3b0
     try clear c4
     try clear p2
     obtain ⟨x0_2,x6_2,rfl,rfl,HA,HK2,⟨m2,rfl⟩⟩ :=hrel
     cases gk with
     | zero=>exact absurd HA.out (by simp [complineref16_Date.l0])
     | succ k2=>
      have H:=HA.out
      clear HA
      simp only [complineref16_Date.l0] at H
      replace H:=Option.bind_eq_some_iff.mp H
      obtain ⟨t192,A50,H⟩ :=H
      replace H:(if x0_2≥t192 then ((complineref16_days.f x6_2).bind fun t193=>(complineref16_Date.l0 k2 (wrap64 (x0_2 - t193)) (wrap64 (x6_2+1)) 1)) else (complineref16_Date.l1 k2 x0_2 x6_2 1))=some (r1,r2,r3,r4):=H
      have A5:=Aside0.mk A50
      clear A50
      by_cases c6:x0_2≥t192
      ·rw [if_pos c6] at H
       have c6b0:decide (t192≤x0_2)=true:=decide_eq_true c6
       clear c6
       replace H:=Option.bind_eq_some_iff.mp H
       obtain ⟨t193,A70,H⟩ :=H
       replace H:(complineref16_Date.l0 k2 (wrap64 (x0_2 - t193)) (wrap64 (x6_2+1)) 1)=some (r1,r2,r3,r4):=H
       have A7:=Aside0.mk A70
       clear A70
       have H':=Aside0.mk H
       clear H
       go_wp2_with (first | ((with_reducible refine gate_callee (f:=95) rfl ?_); refine goesL_ (some 16) rfl rfl Tryz.func95 (by kernel_rfl) rfl #[.int .i64 x6_2] rfl (by (try simp only [List.map_toArray,List.map_cons,List.map_nil]); first | done | rfl | (simp only [List.length_drop,List.length_take]; rfl)) ?_; (with_reducible refine (complineref16_days.calls x6_2 t192 _ A5.out).mono ?_); rintro e w' ⟨rfl,⟨nd,rfl⟩⟩; refine ⟨_,rfl,?_⟩) | ((with_reducible refine gate_callee (f:=95) rfl ?_); refine goesL_ (some 20) rfl rfl Tryz.func95 (by kernel_rfl) rfl #[.int .i64 x6_2] rfl (by (try simp only [List.map_toArray,List.map_cons,List.map_nil]); first | done | rfl | (simp only [List.length_drop,List.length_take]; rfl)) ?_; (with_reducible refine (complineref16_days.calls x6_2 t193 _ A7.out).mono ?_); rintro e w' ⟨rfl,⟨nd,rfl⟩⟩; refine ⟨_,rfl,?_⟩))
       go_roundg k2
       case measure=>have:=HJ1.out; have:=HK2.out; omega
       case rel=>exact ⟨(wrap64 (x0_2 - t193)),(wrap64 (x6_2+1)),(by first | rfl | (simp; done) | (simp [*]; done)),(by first | rfl | (simp; done) | (simp [*]; done)),H',⟨by have:=HJ1.out; have:=HK2.out; omega⟩,by repeat (first | exact Drawn0.refl _ | apply Drawn0.step)⟩
      ·rw [if_neg c6] at H
       have c6b0:decide (t192≤x0_2)=false:=decide_eq_false c6
       clear c6
       have H':=Aside0.mk H
       clear H
       go_wp2_with (first | ((with_reducible refine gate_callee (f:=95) rfl ?_); refine goesL_ (some 16) rfl rfl Tryz.func95 (by kernel_rfl) rfl #[.int .i64 x6_2] rfl (by (try simp only [List.map_toArray,List.map_cons,List.map_nil]); first | done | rfl | (simp only [List.length_drop,List.length_take]; rfl)) ?_; (with_reducible refine (complineref16_days.calls x6_2 t192 _ A5.out).mono ?_); rintro e w' ⟨rfl,⟨nd,rfl⟩⟩; refine ⟨_,rfl,?_⟩))
       go_loopg [0,7] k2 (fun kq v0 v7 w'=>∃ (x0_3:Int) (x7_3:Int),v0=.int .i64 x0_3∧v7=.int .i64 x7_3∧Aside0 (complineref16_Date.l1 kq x0_3 x6_2 x7_3=some (r1,r2,r3,r4))∧Aside0 (kq≤k2)∧Drawn0 w w')
       case atStart=>exact ⟨(x0_2),(1),(by first | rfl | (simp; done) | (simp [*]; done)),(by first | rfl | (simp; done) | (simp [*]; done)),H',⟨Nat.le_refl _⟩,by repeat (first | exact Drawn0.refl _ | apply Drawn0.step)⟩
       case round=>
        clear H'
        try clear c1
        try clear p2
        try clear c3
        try clear c3b0
        try clear c4
        try clear c5
        try clear c6
        try clear c6b0
        try clear p6
        try clear p2
        obtain ⟨x0_3,x7_3,rfl,rfl,HA,HK3,⟨m3,rfl⟩⟩ :=hrel
        cases gk with
        | zero=>exact absurd HA.out (by simp [complineref16_Date.l1])
        | succ k3=>
         have H:=HA.out
         clear HA
         simp only [complineref16_Date.l1] at H
         replace H:=Option.bind_eq_some_iff.mp H
         obtain ⟨t194,A80,H⟩ :=H
         replace H:(if x0_3≥t194 then ((complineref16_Length.f k3 x6_2 x7_3).bind fun t195=>(complineref16_Date.l1 k3 (wrap64 (x0_3 - t195)) x6_2 (wrap64 (x7_3+1)))) else (some (x6_2,x7_3,wrap64 (x0_3+1),0)))=some (r1,r2,r3,r4):=H
         have A8:=Aside0.mk A80
         clear A80
         by_cases c9:x0_3≥t194
         ·rw [if_pos c9] at H
          have c9b0:decide (t194≤x0_3)=true:=decide_eq_true c9
          clear c9
          replace H:=Option.bind_eq_some_iff.mp H
          obtain ⟨t195,A100,H⟩ :=H
          replace H:(complineref16_Date.l1 k3 (wrap64 (x0_3 - t195)) x6_2 (wrap64 (x7_3+1)))=some (r1,r2,r3,r4):=H
          have A10:=Aside0.mk A100
          clear A100
          have H':=Aside0.mk H
          clear H
          go_wp2_with (first | ((with_reducible refine gate_callee (f:=55) rfl ?_); refine goesL_ (some 27) rfl rfl Tryz.func55 (by kernel_rfl) rfl #[.int .i64 x6_2,.int .i64 x7_3] rfl (by (try simp only [List.map_toArray,List.map_cons,List.map_nil]); first | done | rfl | (simp only [List.length_drop,List.length_take]; rfl)) ?_; (with_reducible refine (complineref16_Length.calls k3 x6_2 x7_3 t194 _ A8.out).mono ?_); rintro e w' ⟨rfl,⟨nd,rfl⟩⟩; refine ⟨_,rfl,?_⟩) | ((with_reducible refine gate_callee (f:=55) rfl ?_); refine goesL_ (some 32) rfl rfl Tryz.func55 (by kernel_rfl) rfl #[.int .i64 x6_2,.int .i64 x7_3] rfl (by (try simp only [List.map_toArray,List.map_cons,List.map_nil]); first | done | rfl | (simp only [List.length_drop,List.length_take]; rfl)) ?_; (with_reducible refine (complineref16_Length.calls k3 x6_2 x7_3 t195 _ A10.out).mono ?_); rintro e w' ⟨rfl,⟨nd,rfl⟩⟩; refine ⟨_,rfl,?_⟩))
          go_roundg k3
          case measure=>have:=HJ1.out; have:=HK2.out; have:=HK3.out; omega
          case rel=>exact ⟨(wrap64 (x0_3 - t195)),(wrap64 (x7_3+1)),(by first | rfl | (simp; done) | (simp [*]; done)),(by first | rfl | (simp; done) | (simp [*]; done)),H',⟨by have:=HJ1.out; have:=HK2.out; have:=HK3.out; omega⟩,by repeat (first | exact Drawn0.refl _ | apply Drawn0.step)⟩
         ·rw [if_neg c9] at H
          have c9b0:decide (t194≤x0_3)=false:=decide_eq_false c9
          clear c9
          simp only [Option.some.injEq,Prod.mk.injEq] at H
          obtain ⟨rfl,rfl,rfl,rfl⟩ :=H
          go_wp2_with (first | ((with_reducible refine gate_callee (f:=55) rfl ?_); refine goesL_ (some 27) rfl rfl Tryz.func55 (by kernel_rfl) rfl #[.int .i64 x6_2,.int .i64 x7_3] rfl (by (try simp only [List.map_toArray,List.map_cons,List.map_nil]); first | done | rfl | (simp only [List.length_drop,List.length_take]; rfl)) ?_; (with_reducible refine (complineref16_Length.calls k3 x6_2 x7_3 t194 _ A8.out).mono ?_); rintro e w' ⟨rfl,⟨nd,rfl⟩⟩; refine ⟨_,rfl,?_⟩))
          refine bodyPost_ret (results_list (rs:=[.tmp 2,.tmp 3,.tmp 4,.tmp 5]) rfl (by simp) (.tmp (.tmp (.tmp (.tmp .nil))))) rfl ?_
          exact ⟨by first | rfl | (simp; done) | (simp [*]; done),by repeat (first | exact Drawn0.refl _ | apply Drawn0.step)⟩
def complineref22_day.f (k:Nat)(a0:Int):Option (Int × Int × Int × Int):=(complineref16_Date.f k a0).bind fun bt197=>(some (a0,bt197.1,bt197.2.1,bt197.2.2.1))
set_option maxHeartbeats 8000000 in
set_option maxRecDepth 100000 in
theorem complineref22_day.calls (k:Nat)(a0:Int)(r1:Int)(r2:Int)(r3:Int)(r4:Int)(w:World)(h:complineref22_day.f k a0=some (r1,r2,r3,r4)) :
  Calls Tryz.prog 25 #[.int .i64 a0] w fun e w'=>e=.returned (.agg #[.int .i64 r1,.int .i64 r2,.int .i64 r3,.int .i64 r4])∧Below w.heap.size w w':=by
 have hu55:=Tryz.underlying55
 have HB:=Aside0.mk (Below.refl w.heap.size w)
 have H:((complineref16_Date.f k a0).bind fun bt197=>(some (a0,bt197.1,bt197.2.1,bt197.2.2.1)))=some (r1,r2,r3,r4):=h
 clear h
 replace H:=Option.bind_eq_some_iff.mp H
 obtain ⟨⟨t197,t198,t199,t200⟩,A20,H⟩ :=H
 replace H:(some (a0,t197,t198,t199))=some (r1,r2,r3,r4):=H
 have A2:=Aside0.mk A20
 clear A20
 simp only [Option.some.injEq,Prod.mk.injEq] at H
 obtain ⟨rfl,rfl,rfl,rfl⟩ :=H
 go_enter Tryz.func25,Tryz.ntmps25
 go_wp2_with (first | ((with_reducible refine gate_dst (N:=2) rfl ?_); refine box_event ?hg (N:=2) ?hd (cs:=#[.int .i64 0,.int .i64 0,.int .i64 0,.int .i64 0]) (t:=55) ?hr ?_; (case hd=>rfl); (case hg=>rfl); (case hr=>first | (go_simp; done) | (go_simp; rfl)); intro gb196 hg w3 hbox hb; have n0_:=Aside0.mk (below_step (by repeat (first | (with_reducible first | exact HB.out | apply below_alloc | apply pw_below_drewN | apply below_drew1) | exact HB.out)) hb); have n1_:=Aside0.mk (hbox); have n2_:=Aside0.mk ((by rw [hg]; exact (below_size (by repeat (first | (with_reducible first | exact HB.out | apply below_alloc | apply pw_below_drewN | apply below_drew1) | exact HB.out))):w.heap.size≤gb196)); have n3_:=Aside0.mk ((by rw [hg]; exact (below_size (by repeat (first | (with_reducible first | exact HB.out | apply below_alloc | apply pw_below_drewN | apply below_drew1) | exact HB.out))):w.heap.size≤gb196)); clear HB; have HB:=n0_; have BK196:=n1_; have GW196:=n2_; have GE196:=n3_; clear n0_ n1_ n2_ n3_; clear hb hbox hg) | ((with_reducible refine gate_callee (f:=54) rfl ?_); refine goesL_ (some 9) rfl rfl Tryz.func54 (by kernel_rfl) rfl #[.int .i64 a0] rfl (by (try simp only [List.map_toArray,List.map_cons,List.map_nil]); first | done | rfl | (simp only [List.length_drop,List.length_take]; rfl)) ?_; (with_reducible refine (complineref16_Date.calls k a0 t197 t198 t199 t200 _ A2.out).mono ?_); rintro e w' ⟨rfl,⟨nd,rfl⟩⟩; refine ⟨_,rfl,?_⟩; (try (rw [drewN_self w3]; generalize hq_:World.drewN w3 _=w3; have n0_:Aside0 (w3.heap[gb196]?=some (.cells #[.int .i64 0,.int .i64 0,.int .i64 0,.int .i64 0] 55 (0,0))):=⟨by rw [← hq_]; exact (by (with_reducible repeat (first | refine blk_drewN ?_ _ | refine blk_drew ?_ | refine blk_alloc ?_ _)); exact BK196.out)⟩; have n1_:Aside0 (Below w.heap.size w w3):=⟨by rw [← hq_]; exact (by repeat (first | (with_reducible first | exact HB.out | apply below_alloc | apply pw_below_drewN | apply below_drew1 | refine below_set ?_ GE196.out) | exact HB.out))⟩; clear BK196 HB hq_; have BK196:=n0_; have HB:=n1_; clear n0_ n1_)); have hcz4_0:w3.cell? ⟨gb196,0,none⟩=some (.int .i64 0):=(blk_cell BK196.out 0).trans rfl; have hcz4_1:w3.cell? ⟨gb196,1,none⟩=some (.int .i64 0):=(blk_cell BK196.out 1).trans rfl; have hcz4_2:w3.cell? ⟨gb196,2,none⟩=some (.int .i64 0):=(blk_cell BK196.out 2).trans rfl; have hcz4_3:w3.cell? ⟨gb196,3,none⟩=some (.int .i64 0):=(blk_cell BK196.out 3).trans rfl; have hfz4_0:=blk_frozen BK196.out 0; have hfz4_1:=blk_frozen BK196.out 1; have hfz4_2:=blk_frozen BK196.out 2; have hfz4_3:=blk_frozen BK196.out 3))
 refine bodyPost_ret (results_cell_row rfl _ _ gb196 55 #[.int .i64 a0,.int .i64 t197,.int .i64 t198,.int .i64 t199] (0,0) _ rfl (by (with_reducible repeat (first | refine blk_drewN ?_ _ | refine blk_drew ?_ | refine blk_alloc ?_ _)); refine blk_put (cs:=#[.int .i64 a0,.int .i64 t197,.int .i64 t198,.int .i64 0]) ?_ 3 _ rfl; (with_reducible repeat (first | refine blk_drewN ?_ _ | refine blk_drew ?_ | refine blk_alloc ?_ _)); refine blk_put (cs:=#[.int .i64 a0,.int .i64 t197,.int .i64 0,.int .i64 0]) ?_ 2 _ rfl; (with_reducible repeat (first | refine blk_drewN ?_ _ | refine blk_drew ?_ | refine blk_alloc ?_ _)); refine blk_put (cs:=#[.int .i64 a0,.int .i64 0,.int .i64 0,.int .i64 0]) ?_ 1 _ rfl; (with_reducible repeat (first | refine blk_drewN ?_ _ | refine blk_drew ?_ | refine blk_alloc ?_ _)); refine blk_put (cs:=#[.int .i64 0,.int .i64 0,.int .i64 0,.int .i64 0]) ?_ 0 _ rfl; (with_reducible repeat (first | refine blk_drewN ?_ _ | refine blk_drew ?_ | refine blk_alloc ?_ _)); exact BK196.out) Tryz.underlying55 rfl (by kernel_rfl)) rfl ?_
 exact ⟨by first | rfl | (simp [errW_none,errW_some] <;> rfl) | (simp [*,errW_none,errW_some] <;> rfl),by repeat (first | (with_reducible first | exact HB.out | apply below_alloc | apply pw_below_drewN | apply below_drew1 | refine below_set ?_ GE196.out) | exact HB.out)⟩
/-! This session's own: the document's after and before, walked. -/
structure R22.Two (w:World) (g:Nat) (n y m d:Int) (W:World):Prop where
 a:W.heap[g]?=some (.cells #[.int .i64 n,.int .i64 y,.int .i64 m,.int .i64 d] 55 (0,0))
 z:W.heap[g+1]?=some (.cells #[.int .i64 0,.int .i64 0,.int .i64 0,.int .i64 0] 55 (0,0))
 b:Below w.heap.size w W
theorem R22.two_step {w:World}{g:Nat}{n y m d:Int}{W W':World}(h:Aside0 (R22.Two w g n y m d W))(hb:Below W.heap.size W W'):Aside0 (R22.Two w g n y m d W'):=⟨⟨blk_below h.out.a hb,blk_below h.out.z hb,below_step h.out.b hb⟩⟩
theorem R22.two_cells {w:World}{g:Nat}{n y m d:Int}{W:World}(h:Aside0 (R22.Two w g n y m d W)):W.cell? ⟨g,0,none⟩=some (.int .i64 n)∧W.cell? ⟨g,1,none⟩=some (.int .i64 y)∧W.cell? ⟨g,2,none⟩=some (.int .i64 m)∧W.cell? ⟨g,3,none⟩=some (.int .i64 d)∧W.frozen? ⟨g+1,0,none⟩=false∧W.frozen? ⟨g+1,1,none⟩=false∧W.frozen? ⟨g+1,2,none⟩=false∧W.frozen? ⟨g+1,3,none⟩=false∧W.cell? ⟨g+1,0,none⟩=some (.int .i64 0)∧W.cell? ⟨g+1,1,none⟩=some (.int .i64 0)∧W.cell? ⟨g+1,2,none⟩=some (.int .i64 0)∧W.cell? ⟨g+1,3,none⟩=some (.int .i64 0):=
 ⟨(blk_cell h.out.a 0).trans rfl,(blk_cell h.out.a 1).trans rfl,(blk_cell h.out.a 2).trans rfl,(blk_cell h.out.a 3).trans rfl,blk_frozen h.out.z 0,blk_frozen h.out.z 1,blk_frozen h.out.z 2,blk_frozen h.out.z 3,(blk_cell h.out.z 0).trans rfl,(blk_cell h.out.z 1).trans rfl,(blk_cell h.out.z 2).trans rfl,(blk_cell h.out.z 3).trans rfl⟩
theorem R22.two_new (w:World)(n y m d:Int):Aside0 (R22.Two w w.heap.size n y m d ((w.alloc (.cells #[.int .i64 n,.int .i64 y,.int .i64 m,.int .i64 d] 55)).alloc (.cells #[.int .i64 0,.int .i64 0,.int .i64 0,.int .i64 0] 55))):=⟨⟨blk_alloc (blk_new w _) _,by have h:=heap_alloc_new (w.alloc (.cells #[.int .i64 n,.int .i64 y,.int .i64 m,.int .i64 d] 55)) (.cells #[.int .i64 0,.int .i64 0,.int .i64 0,.int .i64 0] 55); simpa using h,below_alloc (below_alloc (Below.refl _ _) _) _⟩⟩
set_option maxHeartbeats 8000000 in
set_option maxRecDepth 100000 in
theorem R22.aft (n y m d l:Int)(A:complineref16_Length.f 100 y m=some l)(w:World) :
  Calls Tryz.prog 26 #[.agg #[.int .i64 n,.int .i64 y,.int .i64 m,.int .i64 d]] w fun e w'=>e=.returned (if d < l then .agg #[.int .i64 (wrap64 (n+1)),.int .i64 y,.int .i64 m,.int .i64 (wrap64 (d+1))] else if m < 12 then .agg #[.int .i64 (wrap64 (n+1)),.int .i64 y,.int .i64 (wrap64 (m+1)),.int .i64 1] else .agg #[.int .i64 (wrap64 (n+1)),.int .i64 (wrap64 (y+1)),.int .i64 1,.int .i64 1])∧Below w.heap.size w w':=by
 obtain ⟨rv,hrv⟩:∃ v:Value,(if d < l then .agg #[.int .i64 (wrap64 (n+1)),.int .i64 y,.int .i64 m,.int .i64 (wrap64 (d+1))] else if m < 12 then .agg #[.int .i64 (wrap64 (n+1)),.int .i64 y,.int .i64 (wrap64 (m+1)),.int .i64 1] else .agg #[.int .i64 (wrap64 (n+1)),.int .i64 (wrap64 (y+1)),.int .i64 1,.int .i64 1])=v:=⟨_,rfl⟩
 rw [hrv]
 replace hrv:=Lib.hid hrv
 replace A:=Lib.hid A
 have T0:=R22.two_new w n y m d
 go_enter Tryz.func26,Tryz.ntmps26
 go_wp2_with fail
 obtain ⟨g,hg⟩:∃ g,w.heap.size=g:=⟨_,rfl⟩
 rw [hg] at T0 ⊢
 generalize (w.alloc (.cells #[.int .i64 n,.int .i64 y,.int .i64 m,.int .i64 d] 55)).alloc (.cells #[.int .i64 0,.int .i64 0,.int .i64 0,.int .i64 0] 55)=w1 at T0 ⊢
 have T1:Aside0 (R22.Two w g n y m d w1.drew):=R22.two_step T0 (below_drew1 (Below.refl _ _))
 obtain ⟨v0,v1,v2,v3,f0,f1,f2,f3,z0,z1,z2,z3⟩ :=R22.two_cells T1
 refine start_ (n:=8) (S:=fun w'=>w'.cell? ⟨g,0,none⟩=some (.int .i64 n)∧w'.cell? ⟨g,1,none⟩=some (.int .i64 y)∧w'.cell? ⟨g,2,none⟩=some (.int .i64 m)∧w'.cell? ⟨g,3,none⟩=some (.int .i64 d)∧w'.frozen? ⟨g+1,0,none⟩=false∧w'.frozen? ⟨g+1,1,none⟩=false∧w'.frozen? ⟨g+1,2,none⟩=false∧w'.frozen? ⟨g+1,3,none⟩=false∧w'.cell? ⟨g+1,0,none⟩=some (.int .i64 0)∧w'.cell? ⟨g+1,1,none⟩=some (.int .i64 0)∧w'.cell? ⟨g+1,2,none⟩=some (.int .i64 0)∧w'.cell? ⟨g+1,3,none⟩=some (.int .i64 0)) (ds:=[]) #[false,false,false,false,false,false,false,false] (by kernel_rfl) rfl rfl ⟨v0,v1,v2,v3,f0,f1,f2,f3,z0,z1,z2,z3⟩ (fun hHeld=>?_)
 refine pure_ (i:=0) (N:=some 3) (v:=?_) (a':=?_) #[true,false,false,false,false,false,false,false] rfl rfl (by kernel_rfl) (fun _ _ _ h=>h) (Or.inl ⟨by rfl,?_⟩) ?_ ?_
 rotate_left
 ·intro w'
  go_simp
  with_reducible rfl
 rotate_left
 ·simp only [Act.put,List.setIfInBounds_toArray,List.set_cons_zero,List.set_cons_succ,i64_w,i32_w]
  rfl
 refine pure_ (i:=2) (N:=some 5) (v:=?_) (a':=?_) #[true,false,true,false,false,false,false,false] rfl rfl (by kernel_rfl) (fun _ _ _ h=>h) (Or.inl ⟨by rfl,?_⟩) ?_ ?_
 rotate_left
 ·intro w'
  go_simp
  with_reducible rfl
 rotate_left
 ·simp only [Act.put,List.setIfInBounds_toArray,List.set_cons_zero,List.set_cons_succ,i64_w,i32_w]
  rfl
 refine pure_ (i:=4) (N:=some 7) (v:=?_) (a':=?_) #[true,false,true,false,true,false,false,false] rfl rfl (by kernel_rfl) (fun _ _ _ h=>h) (Or.inl ⟨by rfl,?_⟩) ?_ ?_
 rotate_left
 ·intro w'
  go_simp
  with_reducible rfl
 rotate_left
 ·simp only [Act.put,List.setIfInBounds_toArray,List.set_cons_zero,List.set_cons_succ,i64_w,i32_w]
  rfl
 refine take_ (i:=1) (N:=some 4) (v:=?_) (a':=?_) #[true,true,true,false,true,false,false,false] rfl rfl (by kernel_rfl) (fun _ _ _ h=>h) (Or.inl ⟨by rfl,?_⟩) hHeld ?_ ?_
 rotate_left
 ·rintro w' ⟨s0,s1,s2,s3,s4,s5,s6,s7,s8,s9,s10,s11⟩
  go_simp
  with_reducible rfl
 rotate_left
 ·simp only [Act.put,List.setIfInBounds_toArray,List.set_cons_zero,List.set_cons_succ,i64_w,i32_w]
  rfl
 refine take_ (i:=3) (N:=some 6) (v:=?_) (a':=?_) #[true,true,true,true,true,false,false,false] rfl rfl (by kernel_rfl) (fun _ _ _ h=>h) (Or.inl ⟨by rfl,?_⟩) hHeld ?_ ?_
 rotate_left
 ·rintro w' ⟨s0,s1,s2,s3,s4,s5,s6,s7,s8,s9,s10,s11⟩
  go_simp
  with_reducible rfl
 rotate_left
 ·simp only [Act.put,List.setIfInBounds_toArray,List.set_cons_zero,List.set_cons_succ,i64_w,i32_w]
  rfl
 refine take_ (i:=5) (N:=some 8) (v:=?_) (a':=?_) #[true,true,true,true,true,true,false,false] rfl rfl (by kernel_rfl) (fun _ _ _ h=>h) (Or.inl ⟨by rfl,?_⟩) hHeld ?_ ?_
 rotate_left
 ·rintro w' ⟨s0,s1,s2,s3,s4,s5,s6,s7,s8,s9,s10,s11⟩
  go_simp
  with_reducible rfl
 rotate_left
 ·simp only [Act.put,List.setIfInBounds_toArray,List.set_cons_zero,List.set_cons_succ,i64_w,i32_w]
  rfl
 refine one_ (i:=6) (N:=some 9) #[true,true,true,true,true,true,true,false] rfl rfl (by kernel_rfl) (by decide) (fun K hK=>?_)
 refine goes_ Tryz.func55 (by kernel_rfl) rfl #[.int .i64 y,.int .i64 m] (by rfl) rfl rfl (by simp only [List.map_toArray,List.map_cons,List.map_nil]; rfl) ?_
 with_reducible refine (complineref16_Length.calls _ _ _ l _ A.out).mono ?_
 rintro e w3 ⟨rfl,hb⟩
 refine ⟨_,rfl,?_⟩
 have T_:Aside0 (R22.Two w g n y m d w3):=R22.two_step (by assumption) hb.below
 clear hb
 obtain ⟨v0,v1,v2,v3,f0,f1,f2,f3,z0,z1,z2,z3⟩ :=R22.two_cells T_
 refine hK.out _ _ ⟨v0,v1,v2,v3,f0,f1,f2,f3,z0,z1,z2,z3⟩ (fun hHeld=>?_)
 clear hK K
 refine norm_ (a':=?_) ?_ ?_
 rotate_left
 ·show Act.put _ (some 9) _=_
  simp only [Act.put,List.setIfInBounds_toArray,List.set_cons_zero,List.set_cons_succ,i64_w,i32_w]
  rfl
 refine pure_ (i:=7) (N:=some 10) (v:=?_) (a':=?_) #[true,true,true,true,true,true,true,true] rfl rfl (by kernel_rfl) (fun _ _ _ h=>h) (Or.inl ⟨by rfl,?_⟩) ?_ ?_
 rotate_left
 ·intro w'
  go_simp
  with_reducible rfl
 rotate_left
 ·simp only [Act.put,List.setIfInBounds_toArray,List.set_cons_zero,List.set_cons_succ,i64_w,i32_w]
  rfl
 refine done_ (by kernel_rfl) ?_
 clear T0 T1 hHeld
 by_cases c:d < l
 ·have e1:decide (d < l)=true:=decide_eq_true c
  have hv:=hrv.out
  rw [if_pos c] at hv
  replace hv:=Lib.hid hv
  clear c hrv
  rw [e1]
  have hz:=T_.out.z
  have hsz:=blk_lt T_.out.z
  go_wp2_with fail
  refine bodyPost_ret (results_cell_row rfl _ _ (g+1) 55 #[.int .i64 (wrap64 (n+1)),.int .i64 y,.int .i64 m,.int .i64 (wrap64 (d+1))] (0,0) _ rfl (blk_put (blk_put (blk_put (blk_put hz 0 _ rfl) 1 _ rfl) 2 _ rfl) 3 _ rfl) Tryz.underlying55 rfl (by kernel_rfl)) rfl ?_
  exact ⟨by rw [← hv.out],below_set (below_set (below_set (below_set T_.out.b (by omega)) (by omega)) (by omega)) (by omega)⟩
 ·have e1:decide (d < l)=false:=decide_eq_false c
  have hv:=hrv.out
  rw [if_neg c] at hv
  clear c hrv
  rw [e1]
  by_cases c:m < 12
  ·have e2:decide (m < 12)=true:=decide_eq_true c
   rw [if_pos c] at hv
   replace hv:=Lib.hid hv
   clear c
   have hz:=T_.out.z
   have hsz:=blk_lt T_.out.z
   go_wp2_with fail
   refine bodyPost_ret (results_cell_row rfl _ _ (g+1) 55 #[.int .i64 (wrap64 (n+1)),.int .i64 y,.int .i64 (wrap64 (m+1)),.int .i64 1] (0,0) _ rfl (blk_put (blk_put (blk_put (blk_put hz 0 _ rfl) 1 _ rfl) 2 _ rfl) 3 _ rfl) Tryz.underlying55 rfl (by kernel_rfl)) rfl ?_
   exact ⟨by rw [← hv.out],below_set (below_set (below_set (below_set T_.out.b (by omega)) (by omega)) (by omega)) (by omega)⟩
  ·have e2:decide (m < 12)=false:=decide_eq_false c
   rw [if_neg c] at hv
   replace hv:=Lib.hid hv
   clear c
   have hz:=T_.out.z
   have hsz:=blk_lt T_.out.z
   go_wp2_with fail
   refine bodyPost_ret (results_cell_row rfl _ _ (g+1) 55 #[.int .i64 (wrap64 (n+1)),.int .i64 (wrap64 (y+1)),.int .i64 1,.int .i64 1] (0,0) _ rfl (blk_put (blk_put (blk_put (blk_put hz 0 _ rfl) 1 _ rfl) 2 _ rfl) 3 _ rfl) Tryz.underlying55 rfl (by kernel_rfl)) rfl ?_
   exact ⟨by rw [← hv.out],below_set (below_set (below_set (below_set T_.out.b (by omega)) (by omega)) (by omega)) (by omega)⟩
def complineref22_after.f (a0_0:Int)(a0_1:Int)(a0_2:Int)(a0_3:Int):Option (Int × Int × Int × Int):=(complineref16_Length.f 100 a0_1 a0_2).bind fun l=>some (if a0_3 < l then (wrap64 (a0_0+1),a0_1,a0_2,wrap64 (a0_3+1)) else if a0_2 < 12 then (wrap64 (a0_0+1),a0_1,wrap64 (a0_2+1),1) else (wrap64 (a0_0+1),wrap64 (a0_1+1),1,1))
set_option maxHeartbeats 8000000 in
set_option maxRecDepth 100000 in
theorem complineref22_after.calls (a0_0:Int)(a0_1:Int)(a0_2:Int)(a0_3:Int)(r1:Int)(r2:Int)(r3:Int)(r4:Int)(w:World)(h:complineref22_after.f a0_0 a0_1 a0_2 a0_3=some (r1,r2,r3,r4)) :
  Calls Tryz.prog 26 #[.agg #[.int .i64 a0_0,.int .i64 a0_1,.int .i64 a0_2,.int .i64 a0_3]] w fun e w'=>e=.returned (.agg #[.int .i64 r1,.int .i64 r2,.int .i64 r3,.int .i64 r4])∧Below w.heap.size w w':=by
 have hh:((complineref16_Length.f 100 a0_1 a0_2).bind fun l=>some (if a0_3 < l then (wrap64 (a0_0+1),a0_1,a0_2,wrap64 (a0_3+1)) else if a0_2 < 12 then (wrap64 (a0_0+1),a0_1,wrap64 (a0_2+1),1) else (wrap64 (a0_0+1),wrap64 (a0_1+1),1,1)))=some (r1,r2,r3,r4):=h
 clear h
 obtain ⟨l,A,h1⟩ :=Option.bind_eq_some_iff.1 hh
 have e:=Option.some.inj h1
 refine (R22.aft a0_0 a0_1 a0_2 a0_3 l A w).mono ?_
 rintro e' w' ⟨h2,h3⟩
 refine ⟨?_,h3⟩
 rw [h2]
 by_cases c:a0_3 < l
 ·rw [if_pos c] at e ⊢
  cases e
  rfl
 ·rw [if_neg c] at e ⊢
  by_cases c':a0_2 < 12
  ·rw [if_pos c'] at e ⊢
   cases e
   rfl
  ·rw [if_neg c'] at e ⊢
   cases e
   rfl
/-! This session's own: the document's On, walked. -/
set_option maxHeartbeats 8000000 in
set_option maxRecDepth 100000 in
theorem R21.on_calls (b0:Int)(s0:Bool)(b1:Int)(s1:Bool)(b2:Int)(s2:Bool)(b3:Int)(s3:Bool)(b4:Int)(s4:Bool)(mo d wk:Int)(M E V:Bool)(A:complineref18_Has.f 100 b3 s3 mo=some M)(B:complineref18_Has.f 100 b2 s2 d=some E)(C:complineref18_Has.f 100 b4 s4 wk=some V)(w:World) :
  Calls Tryz.prog 57 #[.agg #[.int .u64 b0,.bool s0,.int .u64 b1,.bool s1,.int .u64 b2,.bool s2,.int .u64 b3,.bool s3,.int .u64 b4,.bool s4],.int .i64 mo,.int .i64 d,.int .i64 wk] w fun e w'=>e=.returned (.bool (if s2=false∧s4=false then M && (E || V) else M && E && V))∧Below w.heap.size w w':=by
 replace A:=Lib.hid A
 replace B:=Lib.hid B
 replace C:=Lib.hid C
 have H:=Aside0.mk (show Spc.Row (w.alloc (.cells #[.int .u64 b0,.bool s0,.int .u64 b1,.bool s1,.int .u64 b2,.bool s2,.int .u64 b3,.bool s3,.int .u64 b4,.bool s4] 26)) w.heap.size b0 s0 b1 s1 b2 s2 b3 s3 b4 s4∧Below w.heap.size w (w.alloc (.cells #[.int .u64 b0,.bool s0,.int .u64 b1,.bool s1,.int .u64 b2,.bool s2,.int .u64 b3,.bool s3,.int .u64 b4,.bool s4] 26)) from ⟨blk_new w _,below_alloc (Below.refl _ _) _⟩)
 obtain ⟨k0,k1,k2,k3,k4,k5,k6,k7,k8,k9⟩ :=H.out.1.cells
 go_enter Tryz.func57,Tryz.ntmps57
 go_wp2_with fail
 clear k0 k1 k2 k3 k4 k5 k6 k7 k8 k9
 generalize w.alloc (.cells #[.int .u64 b0,.bool s0,.int .u64 b1,.bool s1,.int .u64 b2,.bool s2,.int .u64 b3,.bool s3,.int .u64 b4,.bool s4] 26)=w1 at H ⊢
 refine (complineref18_Has.calls _ _ _ _ _ _ A.out).mono ?_
 rintro e w2 ⟨rfl,hb⟩
 have H2:=Aside0.mk (show Spc.Row w2 w.heap.size b0 s0 b1 s1 b2 s2 b3 s3 b4 s4∧Below w.heap.size w w2 from ⟨blk_below H.out.1 hb,below_step H.out.2 hb⟩)
 clear H hb A
 obtain ⟨k0,k1,k2,k3,k4,k5,k6,k7,k8,k9⟩ :=H2.out.1.cells
 go_wp2_with fail
 clear k0 k1 k2 k3 k4 k5 k6 k7 k8 k9
 refine (complineref18_Has.calls _ _ _ _ _ _ B.out).mono ?_
 rintro e w3 ⟨rfl,hb⟩
 have H3:=Aside0.mk (show Spc.Row w3 w.heap.size b0 s0 b1 s1 b2 s2 b3 s3 b4 s4∧Below w.heap.size w w3 from ⟨blk_below H2.out.1 hb,below_step H2.out.2 hb⟩)
 clear H2 hb B
 obtain ⟨k0,k1,k2,k3,k4,k5,k6,k7,k8,k9⟩ :=H3.out.1.cells
 go_wp2_with fail
 clear k0 k1 k2 k3 k4 k5 k6 k7 k8 k9
 refine (complineref18_Has.calls _ _ _ _ _ _ C.out).mono ?_
 rintro e w4 ⟨rfl,hb⟩
 have H4:=Aside0.mk (show Spc.Row w4 w.heap.size b0 s0 b1 s1 b2 s2 b3 s3 b4 s4∧Below w.heap.size w w4 from ⟨blk_below H3.out.1 hb,below_step H3.out.2 hb⟩)
 clear H3 hb C
 obtain ⟨k0,k1,k2,k3,k4,k5,k6,k7,k8,k9⟩ :=H4.out.1.cells
 cases s2 <;> cases s4 <;> cases M <;> cases E
 all_goals
  go_wp2_with fail
  go_ret
  exact ⟨rfl,H4.out.2⟩
def complineref21_On.f (a0_0:Int)(a0_1:Bool)(a0_2:Int)(a0_3:Bool)(a0_4:Int)(a0_5:Bool)(a0_6:Int)(a0_7:Bool)(a0_8:Int)(a0_9:Bool)(a1:Int)(a2:Int)(a3:Int):Option (Bool):=(complineref18_Has.f 100 a0_6 a0_7 a1).bind fun m=>(complineref18_Has.f 100 a0_4 a0_5 a2).bind fun d=>(complineref18_Has.f 100 a0_8 a0_9 a3).bind fun w=>some (if a0_5=false∧a0_9=false then m && (d || w) else m && d && w)
set_option maxHeartbeats 8000000 in
set_option maxRecDepth 100000 in
theorem complineref21_On.calls (a0_0:Int)(a0_1:Bool)(a0_2:Int)(a0_3:Bool)(a0_4:Int)(a0_5:Bool)(a0_6:Int)(a0_7:Bool)(a0_8:Int)(a0_9:Bool)(a1:Int)(a2:Int)(a3:Int)(r:Bool)(w:World)(h:complineref21_On.f a0_0 a0_1 a0_2 a0_3 a0_4 a0_5 a0_6 a0_7 a0_8 a0_9 a1 a2 a3=some r) :
  Calls Tryz.prog 57 #[.agg #[.int .u64 a0_0,.bool a0_1,.int .u64 a0_2,.bool a0_3,.int .u64 a0_4,.bool a0_5,.int .u64 a0_6,.bool a0_7,.int .u64 a0_8,.bool a0_9],.int .i64 a1,.int .i64 a2,.int .i64 a3] w fun e w'=>e=.returned (.bool r)∧Below w.heap.size w w':=by
 have hh:((complineref18_Has.f 100 a0_6 a0_7 a1).bind fun m=>(complineref18_Has.f 100 a0_4 a0_5 a2).bind fun d=>(complineref18_Has.f 100 a0_8 a0_9 a3).bind fun w=>some (if a0_5=false∧a0_9=false then m && (d || w) else m && d && w))=some r:=h
 clear h
 obtain ⟨m,A,h1⟩ :=Option.bind_eq_some_iff.1 hh
 obtain ⟨d,B,h2⟩ :=Option.bind_eq_some_iff.1 h1
 obtain ⟨v,C,h3⟩ :=Option.bind_eq_some_iff.1 h2
 rw [← Option.some.inj h3]
 exact R21.on_calls a0_0 a0_1 a0_2 a0_3 a0_4 a0_5 a0_6 a0_7 a0_8 a0_9 a1 a2 a3 m d v A B C w
def complineref22_on.f (k:Nat)(a0_0:Int)(a0_1:Bool)(a0_2:Int)(a0_3:Bool)(a0_4:Int)(a0_5:Bool)(a0_6:Int)(a0_7:Bool)(a0_8:Int)(a0_9:Bool)(a1_0:Int)(a1_1:Int)(a1_2:Int)(a1_3:Int):Option (Bool):=(complineref18_Has.f k a0_6 a0_7 a1_2).bind fun t203=>(if t203=true then ((complineref21_On.f a0_0 a0_1 a0_2 a0_3 a0_4 a0_5 a0_6 a0_7 a0_8 a0_9 a1_2 a1_3 (Int.tmod (wrap64 ((Int.tmod a1_0 7)+4)) 7)).bind fun t204=>(some t204)) else (some false))
set_option maxHeartbeats 8000000 in
set_option maxRecDepth 100000 in
theorem complineref22_on.calls (k:Nat)(a0_0:Int)(a0_1:Bool)(a0_2:Int)(a0_3:Bool)(a0_4:Int)(a0_5:Bool)(a0_6:Int)(a0_7:Bool)(a0_8:Int)(a0_9:Bool)(a1_0:Int)(a1_1:Int)(a1_2:Int)(a1_3:Int)(r:Bool)(w:World)(h:complineref22_on.f k a0_0 a0_1 a0_2 a0_3 a0_4 a0_5 a0_6 a0_7 a0_8 a0_9 a1_0 a1_1 a1_2 a1_3=some r) :
  Calls Tryz.prog 27 #[.agg #[.int .u64 a0_0,.bool a0_1,.int .u64 a0_2,.bool a0_3,.int .u64 a0_4,.bool a0_5,.int .u64 a0_6,.bool a0_7,.int .u64 a0_8,.bool a0_9],.agg #[.int .i64 a1_0,.int .i64 a1_1,.int .i64 a1_2,.int .i64 a1_3]] w fun e w'=>e=.returned (.bool r)∧Below w.heap.size w w':=by
 have hu26:=Tryz.underlying26
 have hu55:=Tryz.underlying55
 have hu24:=Tryz.underlying24
 have HB:=Aside0.mk (Below.refl w.heap.size w)
 have H:((complineref18_Has.f k a0_6 a0_7 a1_2).bind fun t203=>(if t203=true then ((complineref21_On.f a0_0 a0_1 a0_2 a0_3 a0_4 a0_5 a0_6 a0_7 a0_8 a0_9 a1_2 a1_3 (Int.tmod (wrap64 ((Int.tmod a1_0 7)+4)) 7)).bind fun t204=>(some t204)) else (some false)))=some r:=h
 clear h
 replace H:=Option.bind_eq_some_iff.mp H
 obtain ⟨t203,A30,H⟩ :=H
 replace H:(if t203=true then ((complineref21_On.f a0_0 a0_1 a0_2 a0_3 a0_4 a0_5 a0_6 a0_7 a0_8 a0_9 a1_2 a1_3 (Int.tmod (wrap64 ((Int.tmod a1_0 7)+4)) 7)).bind fun t204=>(some t204)) else (some false))=some r:=H
 have A3:=Aside0.mk A30
 clear A30
 by_cases c4:t203=true
 ·subst c4
  have H1:((complineref21_On.f a0_0 a0_1 a0_2 a0_3 a0_4 a0_5 a0_6 a0_7 a0_8 a0_9 a1_2 a1_3 (Int.tmod (wrap64 ((Int.tmod a1_0 7)+4)) 7)).bind fun t204=>(some t204))=some r:=by rw [if_pos rfl] at H; exact H
  clear H
  have H:=H1
  clear H1
  replace H:=Option.bind_eq_some_iff.mp H
  obtain ⟨t204,A50,H⟩ :=H
  replace H:(some t204)=some r:=H
  have A5:=Aside0.mk A50
  clear A50
  obtain rfl:=Option.some.inj H
  go_enter Tryz.func27,Tryz.ntmps27
  go_wp2_with (first | ((with_reducible refine gate_dst (N:=2) rfl ?_); refine box_event ?hg (N:=2) ?hd (cs:=#[.int .u64 a0_0,.bool a0_1,.int .u64 a0_2,.bool a0_3,.int .u64 a0_4,.bool a0_5,.int .u64 a0_6,.bool a0_7,.int .u64 a0_8,.bool a0_9]) (t:=26) ?hr ?_; (case hd=>rfl); (case hg=>rfl); (case hr=>first | (go_simp; done) | (go_simp; rfl)); intro gb201 hg w6 hbox hb; have n0_:=Aside0.mk (below_step (by repeat (first | (with_reducible first | exact HB.out | apply below_alloc | apply pw_below_drewN | apply below_drew1) | exact HB.out)) hb); have n1_:=Aside0.mk (hbox); have n2_:=Aside0.mk ((by rw [hg]; exact (below_size (by repeat (first | (with_reducible first | exact HB.out | apply below_alloc | apply pw_below_drewN | apply below_drew1) | exact HB.out))):w.heap.size≤gb201)); have n3_:=Aside0.mk ((by rw [hg]; exact (below_size (by repeat (first | (with_reducible first | exact HB.out | apply below_alloc | apply pw_below_drewN | apply below_drew1) | exact HB.out))):w.heap.size≤gb201)); clear HB; have HB:=n0_; have BK201:=n1_; have GW201:=n2_; have GE201:=n3_; clear n0_ n1_ n2_ n3_; clear hb hbox hg) | ((with_reducible refine gate_dst (N:=3) rfl ?_); refine box_event ?hg (N:=3) ?hd (cs:=#[.int .i64 a1_0,.int .i64 a1_1,.int .i64 a1_2,.int .i64 a1_3]) (t:=55) ?hr ?_; (case hd=>rfl); (case hg=>rfl); (case hr=>first | (go_simp; done) | (go_simp; rfl)); intro gb202 hg w7 hbox hb; have n0_:=Aside0.mk (blk_below (g:=gb201) (o:=.cells #[.int .u64 a0_0,.bool a0_1,.int .u64 a0_2,.bool a0_3,.int .u64 a0_4,.bool a0_5,.int .u64 a0_6,.bool a0_7,.int .u64 a0_8,.bool a0_9] 26 (0,0)) (by (with_reducible repeat (first | refine blk_drewN ?_ _ | refine blk_drew ?_ | refine blk_alloc ?_ _)); exact BK201.out) hb); have n1_:=Aside0.mk (below_step (by repeat (first | (with_reducible first | exact HB.out | apply below_alloc | apply pw_below_drewN | apply below_drew1 | refine below_set ?_ GE201.out) | exact HB.out)) hb); have n2_:=Aside0.mk (hbox); have n3_:=Aside0.mk ((by rw [hg]; exact (below_size (by repeat (first | (with_reducible first | exact HB.out | apply below_alloc | apply pw_below_drewN | apply below_drew1 | refine below_set ?_ GE201.out) | exact HB.out))):w.heap.size≤gb202)); have n4_:=Aside0.mk ((by rw [hg]; exact (below_size (by repeat (first | (with_reducible first | exact HB.out | apply below_alloc | apply pw_below_drewN | apply below_drew1 | refine below_set ?_ GE201.out) | exact HB.out))):w.heap.size≤gb202)); have n5_:=Aside0.mk ((by rw [hg]; exact Nat.ne_of_lt (blk_lt (g:=gb201) (o:=.cells #[.int .u64 a0_0,.bool a0_1,.int .u64 a0_2,.bool a0_3,.int .u64 a0_4,.bool a0_5,.int .u64 a0_6,.bool a0_7,.int .u64 a0_8,.bool a0_9] 26 (0,0)) (by (with_reducible repeat (first | refine blk_drewN ?_ _ | refine blk_drew ?_ | refine blk_alloc ?_ _)); exact BK201.out)):gb201≠gb202)); have n6_:=Aside0.mk ((by rw [hg]; exact Nat.ne_of_gt (blk_lt (g:=gb201) (o:=.cells #[.int .u64 a0_0,.bool a0_1,.int .u64 a0_2,.bool a0_3,.int .u64 a0_4,.bool a0_5,.int .u64 a0_6,.bool a0_7,.int .u64 a0_8,.bool a0_9] 26 (0,0)) (by (with_reducible repeat (first | refine blk_drewN ?_ _ | refine blk_drew ?_ | refine blk_alloc ?_ _)); exact BK201.out)):gb202≠gb201)); clear BK201; clear HB; have BK201:=n0_; have HB:=n1_; have BK202:=n2_; have GW202:=n3_; have GE202:=n4_; have NB201_202:=n5_; have NB202_201:=n6_; clear n0_ n1_ n2_ n3_ n4_ n5_ n6_; clear hb hbox hg; have hnb8:=NB201_202.out; have hnc8:=NB202_201.out; have hcz9_0:w7.cell? ⟨gb201,0,none⟩=some (.int .u64 a0_0):=(blk_cell BK201.out 0).trans rfl; have hcz9_1:w7.cell? ⟨gb201,1,none⟩=some (.bool a0_1):=(blk_cell BK201.out 1).trans rfl; have hcz9_2:w7.cell? ⟨gb201,2,none⟩=some (.int .u64 a0_2):=(blk_cell BK201.out 2).trans rfl; have hcz9_3:w7.cell? ⟨gb201,3,none⟩=some (.bool a0_3):=(blk_cell BK201.out 3).trans rfl; have hcz9_4:w7.cell? ⟨gb201,4,none⟩=some (.int .u64 a0_4):=(blk_cell BK201.out 4).trans rfl; have hcz9_5:w7.cell? ⟨gb201,5,none⟩=some (.bool a0_5):=(blk_cell BK201.out 5).trans rfl; have hcz9_6:w7.cell? ⟨gb201,6,none⟩=some (.int .u64 a0_6):=(blk_cell BK201.out 6).trans rfl; have hcz9_7:w7.cell? ⟨gb201,7,none⟩=some (.bool a0_7):=(blk_cell BK201.out 7).trans rfl; have hcz9_8:w7.cell? ⟨gb201,8,none⟩=some (.int .u64 a0_8):=(blk_cell BK201.out 8).trans rfl; have hcz9_9:w7.cell? ⟨gb201,9,none⟩=some (.bool a0_9):=(blk_cell BK201.out 9).trans rfl; have hfz9_0:=blk_frozen BK201.out 0; have hfz9_1:=blk_frozen BK201.out 1; have hfz9_2:=blk_frozen BK201.out 2; have hfz9_3:=blk_frozen BK201.out 3; have hfz9_4:=blk_frozen BK201.out 4; have hfz9_5:=blk_frozen BK201.out 5; have hfz9_6:=blk_frozen BK201.out 6; have hfz9_7:=blk_frozen BK201.out 7; have hfz9_8:=blk_frozen BK201.out 8; have hfz9_9:=blk_frozen BK201.out 9; have hcz10_0:w7.cell? ⟨gb202,0,none⟩=some (.int .i64 a1_0):=(blk_cell BK202.out 0).trans rfl; have hcz10_1:w7.cell? ⟨gb202,1,none⟩=some (.int .i64 a1_1):=(blk_cell BK202.out 1).trans rfl; have hcz10_2:w7.cell? ⟨gb202,2,none⟩=some (.int .i64 a1_2):=(blk_cell BK202.out 2).trans rfl; have hcz10_3:w7.cell? ⟨gb202,3,none⟩=some (.int .i64 a1_3):=(blk_cell BK202.out 3).trans rfl; have hfz10_0:=blk_frozen BK202.out 0; have hfz10_1:=blk_frozen BK202.out 1; have hfz10_2:=blk_frozen BK202.out 2; have hfz10_3:=blk_frozen BK202.out 3) | ((with_reducible refine gate_callee (f:=56) rfl ?_); refine goesL_ (some 10) rfl rfl Tryz.func56 (by kernel_rfl) rfl #[.agg #[.int .u64 a0_6,.bool a0_7],.int .i64 a1_2] rfl (by (try simp only [List.map_toArray,List.map_cons,List.map_nil]); first | done | rfl | (simp only [List.length_drop,List.length_take]; rfl)) ?_; (with_reducible refine (complineref18_Has.calls k a0_6 a0_7 a1_2 true _ A3.out).mono ?_); rintro e w11 ⟨rfl,hb⟩; refine ⟨_,rfl,?_⟩; have n0_:=Aside0.mk (blk_below (g:=gb201) (o:=.cells #[.int .u64 a0_0,.bool a0_1,.int .u64 a0_2,.bool a0_3,.int .u64 a0_4,.bool a0_5,.int .u64 a0_6,.bool a0_7,.int .u64 a0_8,.bool a0_9] 26 (0,0)) (by (with_reducible repeat (first | refine blk_drewN ?_ _ | refine blk_drew ?_ | refine blk_alloc ?_ _)); exact BK201.out) hb); have n1_:=Aside0.mk (blk_below (g:=gb202) (o:=.cells #[.int .i64 a1_0,.int .i64 a1_1,.int .i64 a1_2,.int .i64 a1_3] 55 (0,0)) (by (with_reducible repeat (first | refine blk_drewN ?_ _ | refine blk_drew ?_ | refine blk_alloc ?_ _)); exact BK202.out) hb); have n2_:=Aside0.mk (below_step (by repeat (first | (with_reducible first | exact HB.out | apply below_alloc | apply pw_below_drewN | apply below_drew1 | refine below_set ?_ GE201.out | refine below_set ?_ GE202.out) | exact HB.out)) hb); clear BK201; clear BK202; clear HB; have BK201:=n0_; have BK202:=n1_; have HB:=n2_; clear n0_ n1_ n2_; (try clear hb); (try clear hb2); (try clear hk); (try clear hi); have hcz12_0:w11.cell? ⟨gb201,0,none⟩=some (.int .u64 a0_0):=(blk_cell BK201.out 0).trans rfl; have hcz12_1:w11.cell? ⟨gb201,1,none⟩=some (.bool a0_1):=(blk_cell BK201.out 1).trans rfl; have hcz12_2:w11.cell? ⟨gb201,2,none⟩=some (.int .u64 a0_2):=(blk_cell BK201.out 2).trans rfl; have hcz12_3:w11.cell? ⟨gb201,3,none⟩=some (.bool a0_3):=(blk_cell BK201.out 3).trans rfl; have hcz12_4:w11.cell? ⟨gb201,4,none⟩=some (.int .u64 a0_4):=(blk_cell BK201.out 4).trans rfl; have hcz12_5:w11.cell? ⟨gb201,5,none⟩=some (.bool a0_5):=(blk_cell BK201.out 5).trans rfl; have hcz12_6:w11.cell? ⟨gb201,6,none⟩=some (.int .u64 a0_6):=(blk_cell BK201.out 6).trans rfl; have hcz12_7:w11.cell? ⟨gb201,7,none⟩=some (.bool a0_7):=(blk_cell BK201.out 7).trans rfl; have hcz12_8:w11.cell? ⟨gb201,8,none⟩=some (.int .u64 a0_8):=(blk_cell BK201.out 8).trans rfl; have hcz12_9:w11.cell? ⟨gb201,9,none⟩=some (.bool a0_9):=(blk_cell BK201.out 9).trans rfl; have hfz12_0:=blk_frozen BK201.out 0; have hfz12_1:=blk_frozen BK201.out 1; have hfz12_2:=blk_frozen BK201.out 2; have hfz12_3:=blk_frozen BK201.out 3; have hfz12_4:=blk_frozen BK201.out 4; have hfz12_5:=blk_frozen BK201.out 5; have hfz12_6:=blk_frozen BK201.out 6; have hfz12_7:=blk_frozen BK201.out 7; have hfz12_8:=blk_frozen BK201.out 8; have hfz12_9:=blk_frozen BK201.out 9; have hcz13_0:w11.cell? ⟨gb202,0,none⟩=some (.int .i64 a1_0):=(blk_cell BK202.out 0).trans rfl; have hcz13_1:w11.cell? ⟨gb202,1,none⟩=some (.int .i64 a1_1):=(blk_cell BK202.out 1).trans rfl; have hcz13_2:w11.cell? ⟨gb202,2,none⟩=some (.int .i64 a1_2):=(blk_cell BK202.out 2).trans rfl; have hcz13_3:w11.cell? ⟨gb202,3,none⟩=some (.int .i64 a1_3):=(blk_cell BK202.out 3).trans rfl; have hfz13_0:=blk_frozen BK202.out 0; have hfz13_1:=blk_frozen BK202.out 1; have hfz13_2:=blk_frozen BK202.out 2; have hfz13_3:=blk_frozen BK202.out 3) | ((with_reducible refine gate_callee (f:=57) rfl ?_); refine goesL_ (some 23) rfl rfl Tryz.func57 (by kernel_rfl) rfl #[.agg #[.int .u64 a0_0,.bool a0_1,.int .u64 a0_2,.bool a0_3,.int .u64 a0_4,.bool a0_5,.int .u64 a0_6,.bool a0_7,.int .u64 a0_8,.bool a0_9],.int .i64 a1_2,.int .i64 a1_3,.int .i64 (Int.tmod (wrap64 ((Int.tmod a1_0 7)+4)) 7)] rfl (by (try simp only [List.map_toArray,List.map_cons,List.map_nil]); first | done | rfl | (simp only [List.length_drop,List.length_take]; rfl)) ?_; (with_reducible refine (complineref21_On.calls a0_0 a0_1 a0_2 a0_3 a0_4 a0_5 a0_6 a0_7 a0_8 a0_9 a1_2 a1_3 (Int.tmod (wrap64 ((Int.tmod a1_0 7)+4)) 7) t204 _ A5.out).mono ?_); rintro e w14 ⟨rfl,hb⟩; refine ⟨_,rfl,?_⟩; have n0_:=Aside0.mk (blk_below (g:=gb201) (o:=.cells #[.int .u64 a0_0,.bool a0_1,.int .u64 a0_2,.bool a0_3,.int .u64 a0_4,.bool a0_5,.int .u64 a0_6,.bool a0_7,.int .u64 a0_8,.bool a0_9] 26 (0,0)) (by (with_reducible repeat (first | refine blk_drewN ?_ _ | refine blk_drew ?_ | refine blk_alloc ?_ _)); exact BK201.out) hb); have n1_:=Aside0.mk (blk_below (g:=gb202) (o:=.cells #[.int .i64 a1_0,.int .i64 a1_1,.int .i64 a1_2,.int .i64 a1_3] 55 (0,0)) (by (with_reducible repeat (first | refine blk_drewN ?_ _ | refine blk_drew ?_ | refine blk_alloc ?_ _)); exact BK202.out) hb); have n2_:=Aside0.mk (below_step (by repeat (first | (with_reducible first | exact HB.out | apply below_alloc | apply pw_below_drewN | apply below_drew1 | refine below_set ?_ GE201.out | refine below_set ?_ GE202.out) | exact HB.out)) hb); clear BK201; clear BK202; clear HB; have BK201:=n0_; have BK202:=n1_; have HB:=n2_; clear n0_ n1_ n2_; (try clear hb); (try clear hb2); (try clear hk); (try clear hi)))
  go_ret
  exact ⟨by first | rfl | (simp [errW_none,errW_some] <;> rfl) | (simp [*,errW_none,errW_some] <;> rfl),by repeat (first | (with_reducible first | exact HB.out | apply below_alloc | apply pw_below_drewN | apply below_drew1 | refine below_set ?_ GE201.out | refine below_set ?_ GE202.out) | exact HB.out)⟩
 ·replace c4:=Bool.eq_false_iff.mpr c4
  subst c4
  have H1:(some false)=some r:=by rw [if_neg (show ¬ (false=true) by decide)] at H; exact H
  clear H
  have H:=H1
  clear H1
  obtain rfl:=Option.some.inj H
  go_enter Tryz.func27,Tryz.ntmps27
  go_wp2_with (first | ((with_reducible refine gate_dst (N:=2) rfl ?_); refine box_event ?hg (N:=2) ?hd (cs:=#[.int .u64 a0_0,.bool a0_1,.int .u64 a0_2,.bool a0_3,.int .u64 a0_4,.bool a0_5,.int .u64 a0_6,.bool a0_7,.int .u64 a0_8,.bool a0_9]) (t:=26) ?hr ?_; (case hd=>rfl); (case hg=>rfl); (case hr=>first | (go_simp; done) | (go_simp; rfl)); intro gb201 hg w15 hbox hb; have n0_:=Aside0.mk (below_step (by repeat (first | (with_reducible first | exact HB.out | apply below_alloc | apply pw_below_drewN | apply below_drew1) | exact HB.out)) hb); have n1_:=Aside0.mk (hbox); have n2_:=Aside0.mk ((by rw [hg]; exact (below_size (by repeat (first | (with_reducible first | exact HB.out | apply below_alloc | apply pw_below_drewN | apply below_drew1) | exact HB.out))):w.heap.size≤gb201)); have n3_:=Aside0.mk ((by rw [hg]; exact (below_size (by repeat (first | (with_reducible first | exact HB.out | apply below_alloc | apply pw_below_drewN | apply below_drew1) | exact HB.out))):w.heap.size≤gb201)); clear HB; have HB:=n0_; have BK201:=n1_; have GW201:=n2_; have GE201:=n3_; clear n0_ n1_ n2_ n3_; clear hb hbox hg) | ((with_reducible refine gate_dst (N:=3) rfl ?_); refine box_event ?hg (N:=3) ?hd (cs:=#[.int .i64 a1_0,.int .i64 a1_1,.int .i64 a1_2,.int .i64 a1_3]) (t:=55) ?hr ?_; (case hd=>rfl); (case hg=>rfl); (case hr=>first | (go_simp; done) | (go_simp; rfl)); intro gb202 hg w16 hbox hb; have n0_:=Aside0.mk (blk_below (g:=gb201) (o:=.cells #[.int .u64 a0_0,.bool a0_1,.int .u64 a0_2,.bool a0_3,.int .u64 a0_4,.bool a0_5,.int .u64 a0_6,.bool a0_7,.int .u64 a0_8,.bool a0_9] 26 (0,0)) (by (with_reducible repeat (first | refine blk_drewN ?_ _ | refine blk_drew ?_ | refine blk_alloc ?_ _)); exact BK201.out) hb); have n1_:=Aside0.mk (below_step (by repeat (first | (with_reducible first | exact HB.out | apply below_alloc | apply pw_below_drewN | apply below_drew1 | refine below_set ?_ GE201.out) | exact HB.out)) hb); have n2_:=Aside0.mk (hbox); have n3_:=Aside0.mk ((by rw [hg]; exact (below_size (by repeat (first | (with_reducible first | exact HB.out | apply below_alloc | apply pw_below_drewN | apply below_drew1 | refine below_set ?_ GE201.out) | exact HB.out))):w.heap.size≤gb202)); have n4_:=Aside0.mk ((by rw [hg]; exact (below_size (by repeat (first | (with_reducible first | exact HB.out | apply below_alloc | apply pw_below_drewN | apply below_drew1 | refine below_set ?_ GE201.out) | exact HB.out))):w.heap.size≤gb202)); have n5_:=Aside0.mk ((by rw [hg]; exact Nat.ne_of_lt (blk_lt (g:=gb201) (o:=.cells #[.int .u64 a0_0,.bool a0_1,.int .u64 a0_2,.bool a0_3,.int .u64 a0_4,.bool a0_5,.int .u64 a0_6,.bool a0_7,.int .u64 a0_8,.bool a0_9] 26 (0,0)) (by (with_reducible repeat (first | refine blk_drewN ?_ _ | refine blk_drew ?_ | refine blk_alloc ?_ _)); exact BK201.out)):gb201≠gb202)); have n6_:=Aside0.mk ((by rw [hg]; exact Nat.ne_of_gt (blk_lt (g:=gb201) (o:=.cells #[.int .u64 a0_0,.bool a0_1,.int .u64 a0_2,.bool a0_3,.int .u64 a0_4,.bool a0_5,.int .u64 a0_6,.bool a0_7,.int .u64 a0_8,.bool a0_9] 26 (0,0)) (by (with_reducible repeat (first | refine blk_drewN ?_ _ | refine blk_drew ?_ | refine blk_alloc ?_ _)); exact BK201.out)):gb202≠gb201)); clear BK201; clear HB; have BK201:=n0_; have HB:=n1_; have BK202:=n2_; have GW202:=n3_; have GE202:=n4_; have NB201_202:=n5_; have NB202_201:=n6_; clear n0_ n1_ n2_ n3_ n4_ n5_ n6_; clear hb hbox hg; have hnb17:=NB201_202.out; have hnc17:=NB202_201.out; have hcz18_0:w16.cell? ⟨gb201,0,none⟩=some (.int .u64 a0_0):=(blk_cell BK201.out 0).trans rfl; have hcz18_1:w16.cell? ⟨gb201,1,none⟩=some (.bool a0_1):=(blk_cell BK201.out 1).trans rfl; have hcz18_2:w16.cell? ⟨gb201,2,none⟩=some (.int .u64 a0_2):=(blk_cell BK201.out 2).trans rfl; have hcz18_3:w16.cell? ⟨gb201,3,none⟩=some (.bool a0_3):=(blk_cell BK201.out 3).trans rfl; have hcz18_4:w16.cell? ⟨gb201,4,none⟩=some (.int .u64 a0_4):=(blk_cell BK201.out 4).trans rfl; have hcz18_5:w16.cell? ⟨gb201,5,none⟩=some (.bool a0_5):=(blk_cell BK201.out 5).trans rfl; have hcz18_6:w16.cell? ⟨gb201,6,none⟩=some (.int .u64 a0_6):=(blk_cell BK201.out 6).trans rfl; have hcz18_7:w16.cell? ⟨gb201,7,none⟩=some (.bool a0_7):=(blk_cell BK201.out 7).trans rfl; have hcz18_8:w16.cell? ⟨gb201,8,none⟩=some (.int .u64 a0_8):=(blk_cell BK201.out 8).trans rfl; have hcz18_9:w16.cell? ⟨gb201,9,none⟩=some (.bool a0_9):=(blk_cell BK201.out 9).trans rfl; have hfz18_0:=blk_frozen BK201.out 0; have hfz18_1:=blk_frozen BK201.out 1; have hfz18_2:=blk_frozen BK201.out 2; have hfz18_3:=blk_frozen BK201.out 3; have hfz18_4:=blk_frozen BK201.out 4; have hfz18_5:=blk_frozen BK201.out 5; have hfz18_6:=blk_frozen BK201.out 6; have hfz18_7:=blk_frozen BK201.out 7; have hfz18_8:=blk_frozen BK201.out 8; have hfz18_9:=blk_frozen BK201.out 9; have hcz19_0:w16.cell? ⟨gb202,0,none⟩=some (.int .i64 a1_0):=(blk_cell BK202.out 0).trans rfl; have hcz19_1:w16.cell? ⟨gb202,1,none⟩=some (.int .i64 a1_1):=(blk_cell BK202.out 1).trans rfl; have hcz19_2:w16.cell? ⟨gb202,2,none⟩=some (.int .i64 a1_2):=(blk_cell BK202.out 2).trans rfl; have hcz19_3:w16.cell? ⟨gb202,3,none⟩=some (.int .i64 a1_3):=(blk_cell BK202.out 3).trans rfl; have hfz19_0:=blk_frozen BK202.out 0; have hfz19_1:=blk_frozen BK202.out 1; have hfz19_2:=blk_frozen BK202.out 2; have hfz19_3:=blk_frozen BK202.out 3) | ((with_reducible refine gate_callee (f:=56) rfl ?_); refine goesL_ (some 10) rfl rfl Tryz.func56 (by kernel_rfl) rfl #[.agg #[.int .u64 a0_6,.bool a0_7],.int .i64 a1_2] rfl (by (try simp only [List.map_toArray,List.map_cons,List.map_nil]); first | done | rfl | (simp only [List.length_drop,List.length_take]; rfl)) ?_; (with_reducible refine (complineref18_Has.calls k a0_6 a0_7 a1_2 false _ A3.out).mono ?_); rintro e w20 ⟨rfl,hb⟩; refine ⟨_,rfl,?_⟩; have n0_:=Aside0.mk (blk_below (g:=gb201) (o:=.cells #[.int .u64 a0_0,.bool a0_1,.int .u64 a0_2,.bool a0_3,.int .u64 a0_4,.bool a0_5,.int .u64 a0_6,.bool a0_7,.int .u64 a0_8,.bool a0_9] 26 (0,0)) (by (with_reducible repeat (first | refine blk_drewN ?_ _ | refine blk_drew ?_ | refine blk_alloc ?_ _)); exact BK201.out) hb); have n1_:=Aside0.mk (blk_below (g:=gb202) (o:=.cells #[.int .i64 a1_0,.int .i64 a1_1,.int .i64 a1_2,.int .i64 a1_3] 55 (0,0)) (by (with_reducible repeat (first | refine blk_drewN ?_ _ | refine blk_drew ?_ | refine blk_alloc ?_ _)); exact BK202.out) hb); have n2_:=Aside0.mk (below_step (by repeat (first | (with_reducible first | exact HB.out | apply below_alloc | apply pw_below_drewN | apply below_drew1 | refine below_set ?_ GE201.out | refine below_set ?_ GE202.out) | exact HB.out)) hb); clear BK201; clear BK202; clear HB; have BK201:=n0_; have BK202:=n1_; have HB:=n2_; clear n0_ n1_ n2_; (try clear hb); (try clear hb2); (try clear hk); (try clear hi)))
  go_ret
  exact ⟨by first | rfl | (simp [errW_none,errW_some] <;> rfl) | (simp [*,errW_none,errW_some] <;> rfl),by repeat (first | (with_reducible first | exact HB.out | apply below_alloc | apply pw_below_drewN | apply below_drew1 | refine below_set ?_ GE201.out | refine below_set ?_ GE202.out) | exact HB.out)⟩
def complineref22_at.f (k:Nat)(a0_0:Int)(a0_1:Bool)(a0_2:Int)(a0_3:Bool)(a0_4:Int)(a0_5:Bool)(a0_6:Int)(a0_7:Bool)(a0_8:Int)(a0_9:Bool)(a1:Int):Option (Bool):=(complineref18_Has.f k a0_2 a0_3 (wrap64 (Int.tdiv a1 60))).bind fun t206=>(if t206=true then ((complineref18_Has.f k a0_0 a0_1 (Int.tmod a1 60)).bind fun t207=>(some t207)) else (some false))
set_option maxHeartbeats 8000000 in
set_option maxRecDepth 100000 in
theorem complineref22_at.calls (k:Nat)(a0_0:Int)(a0_1:Bool)(a0_2:Int)(a0_3:Bool)(a0_4:Int)(a0_5:Bool)(a0_6:Int)(a0_7:Bool)(a0_8:Int)(a0_9:Bool)(a1:Int)(r:Bool)(w:World)(h:complineref22_at.f k a0_0 a0_1 a0_2 a0_3 a0_4 a0_5 a0_6 a0_7 a0_8 a0_9 a1=some r) :
  Calls Tryz.prog 28 #[.agg #[.int .u64 a0_0,.bool a0_1,.int .u64 a0_2,.bool a0_3,.int .u64 a0_4,.bool a0_5,.int .u64 a0_6,.bool a0_7,.int .u64 a0_8,.bool a0_9],.int .i64 a1] w fun e w'=>e=.returned (.bool r)∧Below w.heap.size w w':=by
 have hu26:=Tryz.underlying26
 have hu24:=Tryz.underlying24
 have HB:=Aside0.mk (Below.refl w.heap.size w)
 have H:((complineref18_Has.f k a0_2 a0_3 (wrap64 (Int.tdiv a1 60))).bind fun t206=>(if t206=true then ((complineref18_Has.f k a0_0 a0_1 (Int.tmod a1 60)).bind fun t207=>(some t207)) else (some false)))=some r:=h
 clear h
 replace H:=Option.bind_eq_some_iff.mp H
 obtain ⟨t206,A30,H⟩ :=H
 replace H:(if t206=true then ((complineref18_Has.f k a0_0 a0_1 (Int.tmod a1 60)).bind fun t207=>(some t207)) else (some false))=some r:=H
 have A3:=Aside0.mk A30
 clear A30
 by_cases c4:t206=true
 ·subst c4
  have H1:((complineref18_Has.f k a0_0 a0_1 (Int.tmod a1 60)).bind fun t207=>(some t207))=some r:=by rw [if_pos rfl] at H; exact H
  clear H
  have H:=H1
  clear H1
  replace H:=Option.bind_eq_some_iff.mp H
  obtain ⟨t207,A50,H⟩ :=H
  replace H:(some t207)=some r:=H
  have A5:=Aside0.mk A50
  clear A50
  obtain rfl:=Option.some.inj H
  go_enter Tryz.func28,Tryz.ntmps28
  go_wp2_with (first | ((with_reducible refine gate_dst (N:=2) rfl ?_); refine box_event ?hg (N:=2) ?hd (cs:=#[.int .u64 a0_0,.bool a0_1,.int .u64 a0_2,.bool a0_3,.int .u64 a0_4,.bool a0_5,.int .u64 a0_6,.bool a0_7,.int .u64 a0_8,.bool a0_9]) (t:=26) ?hr ?_; (case hd=>rfl); (case hg=>rfl); (case hr=>first | (go_simp; done) | (go_simp; rfl)); intro gb205 hg w6 hbox hb; have n0_:=Aside0.mk (below_step (by repeat (first | (with_reducible first | exact HB.out | apply below_alloc | apply pw_below_drewN | apply below_drew1) | exact HB.out)) hb); have n1_:=Aside0.mk (hbox); have n2_:=Aside0.mk ((by rw [hg]; exact (below_size (by repeat (first | (with_reducible first | exact HB.out | apply below_alloc | apply pw_below_drewN | apply below_drew1) | exact HB.out))):w.heap.size≤gb205)); have n3_:=Aside0.mk ((by rw [hg]; exact (below_size (by repeat (first | (with_reducible first | exact HB.out | apply below_alloc | apply pw_below_drewN | apply below_drew1) | exact HB.out))):w.heap.size≤gb205)); clear HB; have HB:=n0_; have BK205:=n1_; have GW205:=n2_; have GE205:=n3_; clear n0_ n1_ n2_ n3_; clear hb hbox hg; have hcz7_0:w6.cell? ⟨gb205,0,none⟩=some (.int .u64 a0_0):=(blk_cell BK205.out 0).trans rfl; have hcz7_1:w6.cell? ⟨gb205,1,none⟩=some (.bool a0_1):=(blk_cell BK205.out 1).trans rfl; have hcz7_2:w6.cell? ⟨gb205,2,none⟩=some (.int .u64 a0_2):=(blk_cell BK205.out 2).trans rfl; have hcz7_3:w6.cell? ⟨gb205,3,none⟩=some (.bool a0_3):=(blk_cell BK205.out 3).trans rfl; have hcz7_4:w6.cell? ⟨gb205,4,none⟩=some (.int .u64 a0_4):=(blk_cell BK205.out 4).trans rfl; have hcz7_5:w6.cell? ⟨gb205,5,none⟩=some (.bool a0_5):=(blk_cell BK205.out 5).trans rfl; have hcz7_6:w6.cell? ⟨gb205,6,none⟩=some (.int .u64 a0_6):=(blk_cell BK205.out 6).trans rfl; have hcz7_7:w6.cell? ⟨gb205,7,none⟩=some (.bool a0_7):=(blk_cell BK205.out 7).trans rfl; have hcz7_8:w6.cell? ⟨gb205,8,none⟩=some (.int .u64 a0_8):=(blk_cell BK205.out 8).trans rfl; have hcz7_9:w6.cell? ⟨gb205,9,none⟩=some (.bool a0_9):=(blk_cell BK205.out 9).trans rfl; have hfz7_0:=blk_frozen BK205.out 0; have hfz7_1:=blk_frozen BK205.out 1; have hfz7_2:=blk_frozen BK205.out 2; have hfz7_3:=blk_frozen BK205.out 3; have hfz7_4:=blk_frozen BK205.out 4; have hfz7_5:=blk_frozen BK205.out 5; have hfz7_6:=blk_frozen BK205.out 6; have hfz7_7:=blk_frozen BK205.out 7; have hfz7_8:=blk_frozen BK205.out 8; have hfz7_9:=blk_frozen BK205.out 9) | ((with_reducible refine gate_callee (f:=56) rfl ?_); refine goesL_ (some 10) rfl rfl Tryz.func56 (by kernel_rfl) rfl #[.agg #[.int .u64 a0_2,.bool a0_3],.int .i64 (wrap64 (Int.tdiv a1 60))] rfl (by (try simp only [List.map_toArray,List.map_cons,List.map_nil]); first | done | rfl | (simp only [List.length_drop,List.length_take]; rfl)) ?_; (with_reducible refine (complineref18_Has.calls k a0_2 a0_3 (wrap64 (Int.tdiv a1 60)) true _ A3.out).mono ?_); rintro e w8 ⟨rfl,hb⟩; refine ⟨_,rfl,?_⟩; have n0_:=Aside0.mk (blk_below (g:=gb205) (o:=.cells #[.int .u64 a0_0,.bool a0_1,.int .u64 a0_2,.bool a0_3,.int .u64 a0_4,.bool a0_5,.int .u64 a0_6,.bool a0_7,.int .u64 a0_8,.bool a0_9] 26 (0,0)) (by (with_reducible repeat (first | refine blk_drewN ?_ _ | refine blk_drew ?_ | refine blk_alloc ?_ _)); exact BK205.out) hb); have n1_:=Aside0.mk (below_step (by repeat (first | (with_reducible first | exact HB.out | apply below_alloc | apply pw_below_drewN | apply below_drew1 | refine below_set ?_ GE205.out) | exact HB.out)) hb); clear BK205; clear HB; have BK205:=n0_; have HB:=n1_; clear n0_ n1_; (try clear hb); (try clear hb2); (try clear hk); (try clear hi); have hcz9_0:w8.cell? ⟨gb205,0,none⟩=some (.int .u64 a0_0):=(blk_cell BK205.out 0).trans rfl; have hcz9_1:w8.cell? ⟨gb205,1,none⟩=some (.bool a0_1):=(blk_cell BK205.out 1).trans rfl; have hcz9_2:w8.cell? ⟨gb205,2,none⟩=some (.int .u64 a0_2):=(blk_cell BK205.out 2).trans rfl; have hcz9_3:w8.cell? ⟨gb205,3,none⟩=some (.bool a0_3):=(blk_cell BK205.out 3).trans rfl; have hcz9_4:w8.cell? ⟨gb205,4,none⟩=some (.int .u64 a0_4):=(blk_cell BK205.out 4).trans rfl; have hcz9_5:w8.cell? ⟨gb205,5,none⟩=some (.bool a0_5):=(blk_cell BK205.out 5).trans rfl; have hcz9_6:w8.cell? ⟨gb205,6,none⟩=some (.int .u64 a0_6):=(blk_cell BK205.out 6).trans rfl; have hcz9_7:w8.cell? ⟨gb205,7,none⟩=some (.bool a0_7):=(blk_cell BK205.out 7).trans rfl; have hcz9_8:w8.cell? ⟨gb205,8,none⟩=some (.int .u64 a0_8):=(blk_cell BK205.out 8).trans rfl; have hcz9_9:w8.cell? ⟨gb205,9,none⟩=some (.bool a0_9):=(blk_cell BK205.out 9).trans rfl; have hfz9_0:=blk_frozen BK205.out 0; have hfz9_1:=blk_frozen BK205.out 1; have hfz9_2:=blk_frozen BK205.out 2; have hfz9_3:=blk_frozen BK205.out 3; have hfz9_4:=blk_frozen BK205.out 4; have hfz9_5:=blk_frozen BK205.out 5; have hfz9_6:=blk_frozen BK205.out 6; have hfz9_7:=blk_frozen BK205.out 7; have hfz9_8:=blk_frozen BK205.out 8; have hfz9_9:=blk_frozen BK205.out 9) | ((with_reducible refine gate_callee (f:=56) rfl ?_); refine goesL_ (some 17) rfl rfl Tryz.func56 (by kernel_rfl) rfl #[.agg #[.int .u64 a0_0,.bool a0_1],.int .i64 (Int.tmod a1 60)] rfl (by (try simp only [List.map_toArray,List.map_cons,List.map_nil]); first | done | rfl | (simp only [List.length_drop,List.length_take]; rfl)) ?_; (with_reducible refine (complineref18_Has.calls k a0_0 a0_1 (Int.tmod a1 60) t207 _ A5.out).mono ?_); rintro e w10 ⟨rfl,hb⟩; refine ⟨_,rfl,?_⟩; have n0_:=Aside0.mk (blk_below (g:=gb205) (o:=.cells #[.int .u64 a0_0,.bool a0_1,.int .u64 a0_2,.bool a0_3,.int .u64 a0_4,.bool a0_5,.int .u64 a0_6,.bool a0_7,.int .u64 a0_8,.bool a0_9] 26 (0,0)) (by (with_reducible repeat (first | refine blk_drewN ?_ _ | refine blk_drew ?_ | refine blk_alloc ?_ _)); exact BK205.out) hb); have n1_:=Aside0.mk (below_step (by repeat (first | (with_reducible first | exact HB.out | apply below_alloc | apply pw_below_drewN | apply below_drew1 | refine below_set ?_ GE205.out) | exact HB.out)) hb); clear BK205; clear HB; have BK205:=n0_; have HB:=n1_; clear n0_ n1_; (try clear hb); (try clear hb2); (try clear hk); (try clear hi)))
  go_ret
  exact ⟨by first | rfl | (simp [errW_none,errW_some] <;> rfl) | (simp [*,errW_none,errW_some] <;> rfl),by repeat (first | (with_reducible first | exact HB.out | apply below_alloc | apply pw_below_drewN | apply below_drew1 | refine below_set ?_ GE205.out) | exact HB.out)⟩
 ·replace c4:=Bool.eq_false_iff.mpr c4
  subst c4
  have H1:(some false)=some r:=by rw [if_neg (show ¬ (false=true) by decide)] at H; exact H
  clear H
  have H:=H1
  clear H1
  obtain rfl:=Option.some.inj H
  go_enter Tryz.func28,Tryz.ntmps28
  go_wp2_with (first | ((with_reducible refine gate_dst (N:=2) rfl ?_); refine box_event ?hg (N:=2) ?hd (cs:=#[.int .u64 a0_0,.bool a0_1,.int .u64 a0_2,.bool a0_3,.int .u64 a0_4,.bool a0_5,.int .u64 a0_6,.bool a0_7,.int .u64 a0_8,.bool a0_9]) (t:=26) ?hr ?_; (case hd=>rfl); (case hg=>rfl); (case hr=>first | (go_simp; done) | (go_simp; rfl)); intro gb205 hg w11 hbox hb; have n0_:=Aside0.mk (below_step (by repeat (first | (with_reducible first | exact HB.out | apply below_alloc | apply pw_below_drewN | apply below_drew1) | exact HB.out)) hb); have n1_:=Aside0.mk (hbox); have n2_:=Aside0.mk ((by rw [hg]; exact (below_size (by repeat (first | (with_reducible first | exact HB.out | apply below_alloc | apply pw_below_drewN | apply below_drew1) | exact HB.out))):w.heap.size≤gb205)); have n3_:=Aside0.mk ((by rw [hg]; exact (below_size (by repeat (first | (with_reducible first | exact HB.out | apply below_alloc | apply pw_below_drewN | apply below_drew1) | exact HB.out))):w.heap.size≤gb205)); clear HB; have HB:=n0_; have BK205:=n1_; have GW205:=n2_; have GE205:=n3_; clear n0_ n1_ n2_ n3_; clear hb hbox hg; have hcz12_0:w11.cell? ⟨gb205,0,none⟩=some (.int .u64 a0_0):=(blk_cell BK205.out 0).trans rfl; have hcz12_1:w11.cell? ⟨gb205,1,none⟩=some (.bool a0_1):=(blk_cell BK205.out 1).trans rfl; have hcz12_2:w11.cell? ⟨gb205,2,none⟩=some (.int .u64 a0_2):=(blk_cell BK205.out 2).trans rfl; have hcz12_3:w11.cell? ⟨gb205,3,none⟩=some (.bool a0_3):=(blk_cell BK205.out 3).trans rfl; have hcz12_4:w11.cell? ⟨gb205,4,none⟩=some (.int .u64 a0_4):=(blk_cell BK205.out 4).trans rfl; have hcz12_5:w11.cell? ⟨gb205,5,none⟩=some (.bool a0_5):=(blk_cell BK205.out 5).trans rfl; have hcz12_6:w11.cell? ⟨gb205,6,none⟩=some (.int .u64 a0_6):=(blk_cell BK205.out 6).trans rfl; have hcz12_7:w11.cell? ⟨gb205,7,none⟩=some (.bool a0_7):=(blk_cell BK205.out 7).trans rfl; have hcz12_8:w11.cell? ⟨gb205,8,none⟩=some (.int .u64 a0_8):=(blk_cell BK205.out 8).trans rfl; have hcz12_9:w11.cell? ⟨gb205,9,none⟩=some (.bool a0_9):=(blk_cell BK205.out 9).trans rfl; have hfz12_0:=blk_frozen BK205.out 0; have hfz12_1:=blk_frozen BK205.out 1; have hfz12_2:=blk_frozen BK205.out 2; have hfz12_3:=blk_frozen BK205.out 3; have hfz12_4:=blk_frozen BK205.out 4; have hfz12_5:=blk_frozen BK205.out 5; have hfz12_6:=blk_frozen BK205.out 6; have hfz12_7:=blk_frozen BK205.out 7; have hfz12_8:=blk_frozen BK205.out 8; have hfz12_9:=blk_frozen BK205.out 9) | ((with_reducible refine gate_callee (f:=56) rfl ?_); refine goesL_ (some 10) rfl rfl Tryz.func56 (by kernel_rfl) rfl #[.agg #[.int .u64 a0_2,.bool a0_3],.int .i64 (wrap64 (Int.tdiv a1 60))] rfl (by (try simp only [List.map_toArray,List.map_cons,List.map_nil]); first | done | rfl | (simp only [List.length_drop,List.length_take]; rfl)) ?_; (with_reducible refine (complineref18_Has.calls k a0_2 a0_3 (wrap64 (Int.tdiv a1 60)) false _ A3.out).mono ?_); rintro e w13 ⟨rfl,hb⟩; refine ⟨_,rfl,?_⟩; have n0_:=Aside0.mk (blk_below (g:=gb205) (o:=.cells #[.int .u64 a0_0,.bool a0_1,.int .u64 a0_2,.bool a0_3,.int .u64 a0_4,.bool a0_5,.int .u64 a0_6,.bool a0_7,.int .u64 a0_8,.bool a0_9] 26 (0,0)) (by (with_reducible repeat (first | refine blk_drewN ?_ _ | refine blk_drew ?_ | refine blk_alloc ?_ _)); exact BK205.out) hb); have n1_:=Aside0.mk (below_step (by repeat (first | (with_reducible first | exact HB.out | apply below_alloc | apply pw_below_drewN | apply below_drew1 | refine below_set ?_ GE205.out) | exact HB.out)) hb); clear BK205; clear HB; have BK205:=n0_; have HB:=n1_; clear n0_ n1_; (try clear hb); (try clear hb2); (try clear hk); (try clear hi)))
  go_ret
  exact ⟨by first | rfl | (simp [errW_none,errW_some] <;> rfl) | (simp [*,errW_none,errW_some] <;> rfl),by repeat (first | (with_reducible first | exact HB.out | apply below_alloc | apply pw_below_drewN | apply below_drew1 | refine below_set ?_ GE205.out) | exact HB.out)⟩
end Go.Proofs.YtabhfcoljgcpeaaGreatDoor.PNex
