-- Written by a program of this session (gprint.py) over the kit's print.
import Derived.Test.YtepflnfnkfkldaaDoorPReax0
import Derived.Test.YtepflnfnkfkldaaDoorPReax3
import Derived.Test.YtepflnfnkfkldaaDoorPReax11
import Derived.Test.YtepflnfnkfkldaaDoorPReax12
namespace Go.Proofs.YtepflnfnkfkldaaDoor.PRea
open Go.RowKit Go.Proofs.YtepflnfnkfkldaaDoorW.PrintWords Go.Proofs.YtepflnfnkfkldaaDoorW.PrintLast Go.Proofs.YtepflnfnkfkldaaDoorW.PrintMore
attribute [local go_sem] max2_int min2_int max_two min_two max_three min_three max_four min_four
set_option linter.unusedVariables false
set_option linter.unusedSimpArgs false
def complineref01_Add.f (a0:Int)(a1:Int):Option (Int × Bool):=if a1 > (IntKind.u64.wrap (18446744073709551615 - a0)) then (some (18446744073709551615,true)) else (some (IntKind.u64.wrap (a0+a1),false))
set_option maxHeartbeats 8000000 in
set_option maxRecDepth 100000 in
theorem complineref01_Add.calls (a0:Int)(a1:Int)(r1:Int)(r2:Bool)(w:World)(h:complineref01_Add.f a0 a1=some (r1,r2)) :
  Calls Tryd.prog 23 #[.int .u64 a0,.int .u64 a1] w fun e w'=>e=.returned (.tuple #[.int .u64 r1,.bool r2])∧Drawn0 w w':=by
 have H:(if a1 > (IntKind.u64.wrap (18446744073709551615 - a0)) then (some (18446744073709551615,true)) else (some (IntKind.u64.wrap (a0+a1),false)))=some (r1,r2):=h
 clear h
 by_cases c3:a1 > (IntKind.u64.wrap (18446744073709551615 - a0))
 ·rw [if_pos c3] at H
  have c3b0:decide ((IntKind.u64.wrap (18446744073709551615 - a0)) < a1)=true:=decide_eq_true c3
  clear c3
  simp only [Option.some.injEq,Prod.mk.injEq] at H
  obtain ⟨rfl,rfl⟩ :=H
  go_enter Tryd.func23,Tryd.ntmps23
  go_wp2
  go_ret2
  exact ⟨by first | rfl | (simp; done) | (simp [*]; done),by repeat (first | exact Drawn0.refl _ | apply Drawn0.step)⟩
 ·rw [if_neg c3] at H
  have c3b0:decide ((IntKind.u64.wrap (18446744073709551615 - a0)) < a1)=false:=decide_eq_false c3
  clear c3
  simp only [Option.some.injEq,Prod.mk.injEq] at H
  obtain ⟨rfl,rfl⟩ :=H
  go_enter Tryd.func23,Tryd.ntmps23
  go_wp2
  go_ret2
  exact ⟨by first | rfl | (simp; done) | (simp [*]; done),by repeat (first | exact Drawn0.refl _ | apply Drawn0.step)⟩
def complineref22_odd.f (k:Nat)(a0_0:Int)(a0_1:Bool)(a0_2:Int)(a0_3:Bool)(a0_4:Int)(a0_5:Bool)(a0_6:Int)(a0_7:Bool)(a0_8:Int)(a0_9:Bool):Option (Bool):=(complineref19_Check.f k a0_0 a0_1 a0_2 a0_3 a0_4 a0_5 a0_6 a0_7 a0_8 a0_9).bind fun bt187=>(some (bt187.2 != 0))
set_option maxHeartbeats 8000000 in
set_option maxRecDepth 100000 in
theorem complineref22_odd.calls (k:Nat)(a0_0:Int)(a0_1:Bool)(a0_2:Int)(a0_3:Bool)(a0_4:Int)(a0_5:Bool)(a0_6:Int)(a0_7:Bool)(a0_8:Int)(a0_9:Bool)(r:Bool)(w:World)(h:complineref22_odd.f k a0_0 a0_1 a0_2 a0_3 a0_4 a0_5 a0_6 a0_7 a0_8 a0_9=some r) :
  Calls Tryd.prog 48 #[.agg #[.int .u64 a0_0,.bool a0_1,.int .u64 a0_2,.bool a0_3,.int .u64 a0_4,.bool a0_5,.int .u64 a0_6,.bool a0_7,.int .u64 a0_8,.bool a0_9]] w fun e w'=>e=.returned (.bool r)∧Below w.heap.size w w':=by
 have hu26:=Tryd.underlying26
 have HB:=Aside0.mk (Below.refl w.heap.size w)
 have H:((complineref19_Check.f k a0_0 a0_1 a0_2 a0_3 a0_4 a0_5 a0_6 a0_7 a0_8 a0_9).bind fun bt187=>(some (bt187.2 != 0)))=some r:=h
 clear h
 replace H:=Option.bind_eq_some_iff.mp H
 obtain ⟨⟨t187,t188⟩,A20,H⟩ :=H
 replace H:(some (t188 != 0))=some r:=H
 have A2:=Aside0.mk A20
 clear A20
 obtain rfl:=Option.some.inj H
 go_enter Tryd.func48,Tryd.ntmps48
 go_wp2_with (first | ((with_reducible refine gate_dst (N:=1) rfl ?_); refine box_event ?hg (N:=1) ?hd (cs:=#[.int .u64 a0_0,.bool a0_1,.int .u64 a0_2,.bool a0_3,.int .u64 a0_4,.bool a0_5,.int .u64 a0_6,.bool a0_7,.int .u64 a0_8,.bool a0_9]) (t:=26) ?hr ?_; (case hd=>rfl); (case hg=>rfl); (case hr=>first | (go_simp; done) | (go_simp; rfl)); intro gb186 hg w3 hbox hb; have n0_:=Aside0.mk (below_step (by repeat (first | (with_reducible first | exact HB.out | apply below_alloc | apply pw_below_drewN | apply below_drew1) | exact HB.out)) hb); have n1_:=Aside0.mk (hbox); have n2_:=Aside0.mk ((by rw [hg]; exact (below_size (by repeat (first | (with_reducible first | exact HB.out | apply below_alloc | apply pw_below_drewN | apply below_drew1) | exact HB.out))):w.heap.size≤gb186)); have n3_:=Aside0.mk ((by rw [hg]; exact (below_size (by repeat (first | (with_reducible first | exact HB.out | apply below_alloc | apply pw_below_drewN | apply below_drew1) | exact HB.out))):w.heap.size≤gb186)); clear HB; have HB:=n0_; have BK186:=n1_; have GW186:=n2_; have GE186:=n3_; clear n0_ n1_ n2_ n3_; clear hb hbox hg; have hcz4_0:w3.cell? ⟨gb186,0,none⟩=some (.int .u64 a0_0):=(blk_cell BK186.out 0).trans rfl; have hcz4_1:w3.cell? ⟨gb186,1,none⟩=some (.bool a0_1):=(blk_cell BK186.out 1).trans rfl; have hcz4_2:w3.cell? ⟨gb186,2,none⟩=some (.int .u64 a0_2):=(blk_cell BK186.out 2).trans rfl; have hcz4_3:w3.cell? ⟨gb186,3,none⟩=some (.bool a0_3):=(blk_cell BK186.out 3).trans rfl; have hcz4_4:w3.cell? ⟨gb186,4,none⟩=some (.int .u64 a0_4):=(blk_cell BK186.out 4).trans rfl; have hcz4_5:w3.cell? ⟨gb186,5,none⟩=some (.bool a0_5):=(blk_cell BK186.out 5).trans rfl; have hcz4_6:w3.cell? ⟨gb186,6,none⟩=some (.int .u64 a0_6):=(blk_cell BK186.out 6).trans rfl; have hcz4_7:w3.cell? ⟨gb186,7,none⟩=some (.bool a0_7):=(blk_cell BK186.out 7).trans rfl; have hcz4_8:w3.cell? ⟨gb186,8,none⟩=some (.int .u64 a0_8):=(blk_cell BK186.out 8).trans rfl; have hcz4_9:w3.cell? ⟨gb186,9,none⟩=some (.bool a0_9):=(blk_cell BK186.out 9).trans rfl; have hfz4_0:=blk_frozen BK186.out 0; have hfz4_1:=blk_frozen BK186.out 1; have hfz4_2:=blk_frozen BK186.out 2; have hfz4_3:=blk_frozen BK186.out 3; have hfz4_4:=blk_frozen BK186.out 4; have hfz4_5:=blk_frozen BK186.out 5; have hfz4_6:=blk_frozen BK186.out 6; have hfz4_7:=blk_frozen BK186.out 7; have hfz4_8:=blk_frozen BK186.out 8; have hfz4_9:=blk_frozen BK186.out 9) | ((with_reducible refine gate_callee (f:=26) rfl ?_); refine goesL_ (some 7) rfl rfl Tryd.func26 (by kernel_rfl) rfl #[.agg #[.int .u64 a0_0,.bool a0_1,.int .u64 a0_2,.bool a0_3,.int .u64 a0_4,.bool a0_5,.int .u64 a0_6,.bool a0_7,.int .u64 a0_8,.bool a0_9]] rfl (by (try simp only [List.map_toArray,List.map_cons,List.map_nil]); first | done | rfl | (simp only [List.length_drop,List.length_take]; rfl)) ?_; (with_reducible refine (complineref19_Check.calls k a0_0 a0_1 a0_2 a0_3 a0_4 a0_5 a0_6 a0_7 a0_8 a0_9 t187 t188 _ A2.out).mono ?_); rintro e w5 ⟨rfl,hb⟩; refine ⟨_,rfl,?_⟩; have n0_:=Aside0.mk (blk_below (g:=gb186) (o:=.cells #[.int .u64 a0_0,.bool a0_1,.int .u64 a0_2,.bool a0_3,.int .u64 a0_4,.bool a0_5,.int .u64 a0_6,.bool a0_7,.int .u64 a0_8,.bool a0_9] 26 (0,0)) (by (with_reducible repeat (first | refine blk_drewN ?_ _ | refine blk_drew ?_ | refine blk_alloc ?_ _)); exact BK186.out) hb); have n1_:=Aside0.mk (below_step (by repeat (first | (with_reducible first | exact HB.out | apply below_alloc | apply pw_below_drewN | apply below_drew1 | refine below_set ?_ GE186.out) | exact HB.out)) hb); clear BK186; clear HB; have BK186:=n0_; have HB:=n1_; clear n0_ n1_; (try clear hb); (try clear hb2); (try clear hk); (try clear hi)))
 go_ret
 exact ⟨by first | rfl | (simp [errW_none,errW_some] <;> rfl) | (simp [*,errW_none,errW_some] <;> rfl),by repeat (first | (with_reducible first | exact HB.out | apply below_alloc | apply pw_below_drewN | apply below_drew1 | refine below_set ?_ GE186.out) | exact HB.out)⟩
def complineref16_Leap.f (a0:Int):Option (Bool):=if (Int.tmod a0 400)=0 then (some true) else (if (Int.tmod a0 4)=0 then (some ((Int.tmod a0 100) != 0)) else (some false))
set_option maxHeartbeats 8000000 in
set_option maxRecDepth 100000 in
theorem complineref16_Leap.calls (a0:Int)(r:Bool)(w:World)(h:complineref16_Leap.f a0=some r) :
  Calls Tryd.prog 97 #[.int .i64 a0] w fun e w'=>e=.returned (.bool r)∧Drawn0 w w':=by
 have H:(if (Int.tmod a0 400)=0 then (some true) else (if (Int.tmod a0 4)=0 then (some ((Int.tmod a0 100) != 0)) else (some false)))=some r:=h
 clear h
 by_cases c2:(Int.tmod a0 400)=0
 ·rw [if_pos c2] at H
  have c2b0:((Int.tmod a0 400) == 0)=true:=beq_iff_eq.mpr c2
  have c2b1:((Int.tmod a0 400) != 0)=false:=bne_eq_false_iff_eq.mpr c2
  clear c2
  obtain rfl:=Option.some.inj H
  go_enter Tryd.func97,Tryd.ntmps97
  go_wp2
  go_ret
  exact ⟨by first | rfl | (simp; done) | (simp [*]; done),by repeat (first | exact Drawn0.refl _ | apply Drawn0.step)⟩
 ·rw [if_neg c2] at H
  have c2b0:((Int.tmod a0 400) == 0)=false:=beq_eq_false_iff_ne.mpr c2
  have c2b1:((Int.tmod a0 400) != 0)=true:=bne_iff_ne.mpr c2
  by_cases c3:(Int.tmod a0 4)=0
  ·rw [if_pos c3] at H
   have c3b0:((Int.tmod a0 4) == 0)=true:=beq_iff_eq.mpr c3
   have c3b1:((Int.tmod a0 4) != 0)=false:=bne_eq_false_iff_eq.mpr c3
   clear c3
   obtain rfl:=Option.some.inj H
   go_enter Tryd.func97,Tryd.ntmps97
   go_wp2
   go_ret
   exact ⟨by first | rfl | (simp; done) | (simp [*]; done),by repeat (first | exact Drawn0.refl _ | apply Drawn0.step)⟩
  ·rw [if_neg c3] at H
   have c3b0:((Int.tmod a0 4) == 0)=false:=beq_eq_false_iff_ne.mpr c3
   have c3b1:((Int.tmod a0 4) != 0)=true:=bne_iff_ne.mpr c3
   obtain rfl:=Option.some.inj H
   go_enter Tryd.func97,Tryd.ntmps97
   go_wp2
   go_ret
   exact ⟨by first | rfl | (simp; done) | (simp [*]; done),by repeat (first | exact Drawn0.refl _ | apply Drawn0.step)⟩
def complineref16_Length.j0:Nat→Int→Int→Bool→Option (Int)
 | 0,_,_,_=>none
 | k+1,x0,x1,x10=>if x10=true then (some 0) else (if x1=2 then ((complineref16_Leap.f x0).bind fun t189=>(if t189=true then (some 29) else (some 28))) else (if x1=4 then (some 30) else (if x1=6 then (some 30) else (if x1=9 then (some 30) else (if x1=11 then (some 30) else (some 31))))))
def complineref16_Length.f (k:Nat)(a0:Int)(a1:Int):Option (Int):=if a1 < 1 then (complineref16_Length.j0 k a0 a1 true) else (complineref16_Length.j0 k a0 a1 (decide (a1 > 12)))
set_option maxHeartbeats 8000000 in
set_option maxRecDepth 100000 in
theorem complineref16_Length.calls (k:Nat)(a0:Int)(a1:Int)(r:Int)(w:World)(h:complineref16_Length.f k a0 a1=some r) :
  Calls Tryd.prog 82 #[.int .i64 a0,.int .i64 a1] w fun e w'=>e=.returned (.int .i64 r)∧Drawn0 w w':=by
 have H:(if a1 < 1 then (complineref16_Length.j0 k a0 a1 true) else (complineref16_Length.j0 k a0 a1 (decide (a1 > 12))))=some r:=h
 clear h
 have HC3:=Aside0.mk H
 clear H
 go_enter Tryd.func82,Tryd.ntmps82
 go_upto_region 1 with (fail)
 go_cut [10] (fun v10 wc=>∃ (kq:Nat) (x10_2:Bool),v10=.bool x10_2∧Aside0 (complineref16_Length.j0 kq a0 a1 x10_2=some r)∧Aside0 (kq≤k)∧Drawn0 w wc)
 case first=>
  have H:=HC3.out
  clear HC3
  by_cases c4:a1 < 1
  ·rw [if_pos c4] at H
   have c4b0:decide (a1 < 1)=true:=decide_eq_true c4
   clear c4
   (first | rw [c4b0] | (simp only [i64_w,i32_w]; rw [c4b0]) | skip)
   have H':=Aside0.mk H
   clear H
   go_wp2
   go_meet
   case rel=>exact ⟨_,(true),(by first | rfl | (simp; done) | (simp [*]; done)),H',⟨by first | omega | exact Nat.le_refl _⟩,by repeat (first | exact Drawn0.refl _ | apply Drawn0.step)⟩
  ·rw [if_neg c4] at H
   have c4b0:decide (a1 < 1)=false:=decide_eq_false c4
   clear c4
   (first | rw [c4b0] | (simp only [i64_w,i32_w]; rw [c4b0]) | skip)
   have H':=Aside0.mk H
   clear H
   go_wp2
   go_meet
   case rel=>exact ⟨_,(decide (a1 > 12)),(by first | rfl | (simp; done) | (simp [*]; done)),H',⟨by first | omega | exact Nat.le_refl _⟩,by repeat (first | exact Drawn0.refl _ | apply Drawn0.step)⟩
 case rest=>
  clear HC3
  try clear p2
  try clear c4
  try clear c4b0
  obtain ⟨kq,x10_2,rfl,HA,HJ2,⟨mc2,rfl⟩⟩ :=hcut
  cases kq with
  | zero=>exact absurd HA.out (by simp [complineref16_Length.j0])
  | succ kj2=>
   have H:=HA.out
   clear HA
   simp only [complineref16_Length.j0] at H
   by_cases c5:x10_2=true
   ·subst c5
    have H1:(some 0)=some r:=by rw [if_pos rfl] at H; exact H
    clear H
    have H:=H1
    clear H1
    obtain rfl:=Option.some.inj H
    go_wp2
    go_ret
    exact ⟨by first | rfl | (simp; done) | (simp [*]; done),by repeat (first | exact Drawn0.refl _ | apply Drawn0.step)⟩
   ·replace c5:=Bool.eq_false_iff.mpr c5
    subst c5
    have H1:(if a1=2 then ((complineref16_Leap.f a0).bind fun t189=>(if t189=true then (some 29) else (some 28))) else (if a1=4 then (some 30) else (if a1=6 then (some 30) else (if a1=9 then (some 30) else (if a1=11 then (some 30) else (some 31))))))=some r:=by rw [if_neg (show ¬ (false=true) by decide)] at H; exact H
    clear H
    have H:=H1
    clear H1
    by_cases c6:a1=2
    ·rw [if_pos c6] at H
     have c6b0:(a1 == 2)=true:=beq_iff_eq.mpr c6
     have c6b1:(a1 != 2)=false:=bne_eq_false_iff_eq.mpr c6
     clear c6
     replace H:=Option.bind_eq_some_iff.mp H
     obtain ⟨t189,A70,H⟩ :=H
     replace H:(if t189=true then (some 29) else (some 28))=some r:=H
     have A7:=Aside0.mk A70
     clear A70
     by_cases c8:t189=true
     ·subst c8
      have H1:(some 29)=some r:=by rw [if_pos rfl] at H; exact H
      clear H
      have H:=H1
      clear H1
      obtain rfl:=Option.some.inj H
      go_wp2_with (first | ((with_reducible refine gate_callee (f:=97) rfl ?_); refine goesL_ (some 14) rfl rfl Tryd.func97 (by kernel_rfl) rfl #[.int .i64 a0] rfl (by (try simp only [List.map_toArray,List.map_cons,List.map_nil]); first | done | rfl | (simp only [List.length_drop,List.length_take]; rfl)) ?_; (with_reducible refine (complineref16_Leap.calls a0 true _ A7.out).mono ?_); rintro e w' ⟨rfl,⟨nd,rfl⟩⟩; refine ⟨_,rfl,?_⟩))
      go_ret
      exact ⟨by first | rfl | (simp; done) | (simp [*]; done),by repeat (first | exact Drawn0.refl _ | apply Drawn0.step)⟩
     ·replace c8:=Bool.eq_false_iff.mpr c8
      subst c8
      have H1:(some 28)=some r:=by rw [if_neg (show ¬ (false=true) by decide)] at H; exact H
      clear H
      have H:=H1
      clear H1
      obtain rfl:=Option.some.inj H
      go_wp2_with (first | ((with_reducible refine gate_callee (f:=97) rfl ?_); refine goesL_ (some 14) rfl rfl Tryd.func97 (by kernel_rfl) rfl #[.int .i64 a0] rfl (by (try simp only [List.map_toArray,List.map_cons,List.map_nil]); first | done | rfl | (simp only [List.length_drop,List.length_take]; rfl)) ?_; (with_reducible refine (complineref16_Leap.calls a0 false _ A7.out).mono ?_); rintro e w' ⟨rfl,⟨nd,rfl⟩⟩; refine ⟨_,rfl,?_⟩))
      go_ret
      exact ⟨by first | rfl | (simp; done) | (simp [*]; done),by repeat (first | exact Drawn0.refl _ | apply Drawn0.step)⟩
    ·rw [if_neg c6] at H
     have c6b0:(a1 == 2)=false:=beq_eq_false_iff_ne.mpr c6
     have c6b1:(a1 != 2)=true:=bne_iff_ne.mpr c6
     by_cases c9:a1=4
     ·rw [if_pos c9] at H
      have c9b0:(a1 == 4)=true:=beq_iff_eq.mpr c9
      have c9b1:(a1 != 4)=false:=bne_eq_false_iff_eq.mpr c9
      clear c9
      obtain rfl:=Option.some.inj H
      go_wp2
      go_ret
      exact ⟨by first | rfl | (simp; done) | (simp [*]; done),by repeat (first | exact Drawn0.refl _ | apply Drawn0.step)⟩
     ·rw [if_neg c9] at H
      have c9b0:(a1 == 4)=false:=beq_eq_false_iff_ne.mpr c9
      have c9b1:(a1 != 4)=true:=bne_iff_ne.mpr c9
      by_cases c10:a1=6
      ·rw [if_pos c10] at H
       have c10b0:(a1 == 6)=true:=beq_iff_eq.mpr c10
       have c10b1:(a1 != 6)=false:=bne_eq_false_iff_eq.mpr c10
       clear c10
       obtain rfl:=Option.some.inj H
       go_wp2
       go_ret
       exact ⟨by first | rfl | (simp; done) | (simp [*]; done),by repeat (first | exact Drawn0.refl _ | apply Drawn0.step)⟩
      ·rw [if_neg c10] at H
       have c10b0:(a1 == 6)=false:=beq_eq_false_iff_ne.mpr c10
       have c10b1:(a1 != 6)=true:=bne_iff_ne.mpr c10
       by_cases c11:a1=9
       ·rw [if_pos c11] at H
        have c11b0:(a1 == 9)=true:=beq_iff_eq.mpr c11
        have c11b1:(a1 != 9)=false:=bne_eq_false_iff_eq.mpr c11
        clear c11
        obtain rfl:=Option.some.inj H
        go_wp2
        go_ret
        exact ⟨by first | rfl | (simp; done) | (simp [*]; done),by repeat (first | exact Drawn0.refl _ | apply Drawn0.step)⟩
       ·rw [if_neg c11] at H
        have c11b0:(a1 == 9)=false:=beq_eq_false_iff_ne.mpr c11
        have c11b1:(a1 != 9)=true:=bne_iff_ne.mpr c11
        by_cases c12:a1=11
        ·rw [if_pos c12] at H
         have c12b0:(a1 == 11)=true:=beq_iff_eq.mpr c12
         have c12b1:(a1 != 11)=false:=bne_eq_false_iff_eq.mpr c12
         clear c12
         obtain rfl:=Option.some.inj H
         go_wp2
         go_ret
         exact ⟨by first | rfl | (simp; done) | (simp [*]; done),by repeat (first | exact Drawn0.refl _ | apply Drawn0.step)⟩
        ·rw [if_neg c12] at H
         have c12b0:(a1 == 11)=false:=beq_eq_false_iff_ne.mpr c12
         have c12b1:(a1 != 11)=true:=bne_iff_ne.mpr c12
         obtain rfl:=Option.some.inj H
         go_wp2
         go_ret
         exact ⟨by first | rfl | (simp; done) | (simp [*]; done),by repeat (first | exact Drawn0.refl _ | apply Drawn0.step)⟩
def complineref16_days.f (a0:Int):Option (Int):=(complineref16_Leap.f a0).bind fun t190=>(if t190=true then (some 366) else (some 365))
set_option maxHeartbeats 8000000 in
set_option maxRecDepth 100000 in
theorem complineref16_days.calls (a0:Int)(r:Int)(w:World)(h:complineref16_days.f a0=some r) :
  Calls Tryd.prog 96 #[.int .i64 a0] w fun e w'=>e=.returned (.int .i64 r)∧Drawn0 w w':=by
 have H:((complineref16_Leap.f a0).bind fun t190=>(if t190=true then (some 366) else (some 365)))=some r:=h
 clear h
 replace H:=Option.bind_eq_some_iff.mp H
 obtain ⟨t190,A20,H⟩ :=H
 replace H:(if t190=true then (some 366) else (some 365))=some r:=H
 have A2:=Aside0.mk A20
 clear A20
 by_cases c3:t190=true
 ·subst c3
  have H1:(some 366)=some r:=by rw [if_pos rfl] at H; exact H
  clear H
  have H:=H1
  clear H1
  obtain rfl:=Option.some.inj H
  go_enter Tryd.func96,Tryd.ntmps96
  go_wp2_with (first | ((with_reducible refine gate_callee (f:=97) rfl ?_); refine goesL_ (some 4) rfl rfl Tryd.func97 (by kernel_rfl) rfl #[.int .i64 a0] rfl (by (try simp only [List.map_toArray,List.map_cons,List.map_nil]); first | done | rfl | (simp only [List.length_drop,List.length_take]; rfl)) ?_; (with_reducible refine (complineref16_Leap.calls a0 true _ A2.out).mono ?_); rintro e w' ⟨rfl,⟨nd,rfl⟩⟩; refine ⟨_,rfl,?_⟩))
  go_ret
  exact ⟨by first | rfl | (simp; done) | (simp [*]; done),by repeat (first | exact Drawn0.refl _ | apply Drawn0.step)⟩
 ·replace c3:=Bool.eq_false_iff.mpr c3
  subst c3
  have H1:(some 365)=some r:=by rw [if_neg (show ¬ (false=true) by decide)] at H; exact H
  clear H
  have H:=H1
  clear H1
  obtain rfl:=Option.some.inj H
  go_enter Tryd.func96,Tryd.ntmps96
  go_wp2_with (first | ((with_reducible refine gate_callee (f:=97) rfl ?_); refine goesL_ (some 4) rfl rfl Tryd.func97 (by kernel_rfl) rfl #[.int .i64 a0] rfl (by (try simp only [List.map_toArray,List.map_cons,List.map_nil]); first | done | rfl | (simp only [List.length_drop,List.length_take]; rfl)) ?_; (with_reducible refine (complineref16_Leap.calls a0 false _ A2.out).mono ?_); rintro e w' ⟨rfl,⟨nd,rfl⟩⟩; refine ⟨_,rfl,?_⟩))
  go_ret
  exact ⟨by first | rfl | (simp; done) | (simp [*]; done),by repeat (first | exact Drawn0.refl _ | apply Drawn0.step)⟩
mutual
def complineref16_Date.j0:Nat→Int→Bool→Option (Int × Int × Int × Int)
 | 0,_,_=>none
 | k+1,x0,x13=>if x13=true then (some (0,0,0,1)) else (complineref16_Date.l0 k x0 1970 1)
def complineref16_Date.l0:Nat→Int→Int→Int→Option (Int × Int × Int × Int)
 | 0,_,_,_=>none
 | k+1,x0,x6,x7=>(complineref16_days.f x6).bind fun t191=>(if x0≥t191 then ((complineref16_days.f x6).bind fun t192=>(complineref16_Date.l0 k (wrap64 (x0 - t192)) (wrap64 (x6+1)) x7)) else (complineref16_Date.l1 k x0 x6 x7))
def complineref16_Date.l1:Nat→Int→Int→Int→Option (Int × Int × Int × Int)
 | 0,_,_,_=>none
 | k+1,x0,x6,x7=>(complineref16_Length.f k x6 x7).bind fun t193=>(if x0≥t193 then ((complineref16_Length.f k x6 x7).bind fun t194=>(complineref16_Date.l1 k (wrap64 (x0 - t194)) x6 (wrap64 (x7+1)))) else (some (x6,x7,wrap64 (x0+1),0)))
end
def complineref16_Date.f (k:Nat)(a0:Int):Option (Int × Int × Int × Int):=if a0 < 0 then (complineref16_Date.j0 k a0 true) else (complineref16_Date.j0 k a0 (decide (a0 > 376199)))
set_option maxHeartbeats 8000000 in
set_option maxRecDepth 100000 in
theorem complineref16_Date.calls (k:Nat)(a0:Int)(r1:Int)(r2:Int)(r3:Int)(r4:Int)(w:World)(h:complineref16_Date.f k a0=some (r1,r2,r3,r4)) :
  Calls Tryd.prog 81 #[.int .i64 a0] w fun e w'=>e=.returned (.tuple #[.int .i64 r1,.int .i64 r2,.int .i64 r3,.int .i64 r4])∧Drawn0 w w':=by
 have H:(if a0 < 0 then (complineref16_Date.j0 k a0 true) else (complineref16_Date.j0 k a0 (decide (a0 > 376199))))=some (r1,r2,r3,r4):=h
 clear h
 have HC2:=Aside0.mk H
 clear H
 go_enter Tryd.func81,Tryd.ntmps81
 go_upto_region 1 with (fail)
 go_cut [13] (fun v13 wc=>∃ (kq:Nat) (x13_1:Bool),v13=.bool x13_1∧Aside0 (complineref16_Date.j0 kq a0 x13_1=some (r1,r2,r3,r4))∧Aside0 (kq≤k)∧Drawn0 w wc)
 case first=>
  have H:=HC2.out
  clear HC2
  by_cases c3:a0 < 0
  ·rw [if_pos c3] at H
   have c3b0:decide (a0 < 0)=true:=decide_eq_true c3
   clear c3
   (first | rw [c3b0] | (simp only [i64_w,i32_w]; rw [c3b0]) | skip)
   have H':=Aside0.mk H
   clear H
   go_wp2
   go_meet
   case rel=>exact ⟨_,(true),(by first | rfl | (simp; done) | (simp [*]; done)),H',⟨by first | omega | exact Nat.le_refl _⟩,by repeat (first | exact Drawn0.refl _ | apply Drawn0.step)⟩
  ·rw [if_neg c3] at H
   have c3b0:decide (a0 < 0)=false:=decide_eq_false c3
   clear c3
   (first | rw [c3b0] | (simp only [i64_w,i32_w]; rw [c3b0]) | skip)
   have H':=Aside0.mk H
   clear H
   go_wp2
   go_meet
   case rel=>exact ⟨_,(decide (a0 > 376199)),(by first | rfl | (simp; done) | (simp [*]; done)),H',⟨by first | omega | exact Nat.le_refl _⟩,by repeat (first | exact Drawn0.refl _ | apply Drawn0.step)⟩
 case rest=>
  clear HC2
  try clear p2
  try clear c3
  try clear c3b0
  obtain ⟨kq,x13_1,rfl,HA,HJ1,⟨mc1,rfl⟩⟩ :=hcut
  cases kq with
  | zero=>exact absurd HA.out (by simp [complineref16_Date.j0])
  | succ kj1=>
   have H:=HA.out
   clear HA
   simp only [complineref16_Date.j0] at H
   by_cases c4:x13_1=true
   ·subst c4
    have H1:(some (0,0,0,1))=some (r1,r2,r3,r4):=by rw [if_pos rfl] at H; exact H
    clear H
    have H:=H1
    clear H1
    simp only [Option.some.injEq,Prod.mk.injEq] at H
    obtain ⟨rfl,rfl,rfl,rfl⟩ :=H
    go_wp2
    refine bodyPost_ret (results_list (rs:=[.tmp 2,.tmp 3,.tmp 4,.tmp 5]) rfl (by simp) (.tmp (.tmp (.tmp (.tmp .nil))))) rfl ?_
    exact ⟨by first | rfl | (simp; done) | (simp [*]; done),by repeat (first | exact Drawn0.refl _ | apply Drawn0.step)⟩
   ·replace c4:=Bool.eq_false_iff.mpr c4
    subst c4
    have H1:(complineref16_Date.l0 kj1 a0 1970 1)=some (r1,r2,r3,r4):=by rw [if_neg (show ¬ (false=true) by decide)] at H; exact H
    clear H
    have H:=H1
    clear H1
    have H':=Aside0.mk H
    clear H
    go_wp2
    go_loopg [0,6] kj1 (fun kq v0 v6 w'=>∃ (x0_2:Int) (x6_2:Int),v0=.int .i64 x0_2∧v6=.int .i64 x6_2∧Aside0 (complineref16_Date.l0 kq x0_2 x6_2 1=some (r1,r2,r3,r4))∧Aside0 (kq≤kj1)∧Drawn0 w w')
    case atStart=>exact ⟨(a0),(1970),(by first | rfl | (simp; done) | (simp [*]; done)),(by first | rfl | (simp; done) | (simp [*]; done)),H',⟨Nat.le_refl _⟩,by repeat (first | exact Drawn0.refl _ | apply Drawn0.step)⟩
    case round=>
     clear H'
     try clear c1
     try clear p2
     try clear c3
     try clear c3b0
     try clear c4
     try clear p2
     obtain ⟨x0_2,x6_2,rfl,rfl,HA,HK2,⟨m2,rfl⟩⟩ :=hrel
     cases gk with
     | zero=>exact absurd HA.out (by simp [complineref16_Date.l0])
     | succ k2=>
      have H:=HA.out
      clear HA
      simp only [complineref16_Date.l0] at H
      replace H:=Option.bind_eq_some_iff.mp H
      obtain ⟨t191,A50,H⟩ :=H
      replace H:(if x0_2≥t191 then ((complineref16_days.f x6_2).bind fun t192=>(complineref16_Date.l0 k2 (wrap64 (x0_2 - t192)) (wrap64 (x6_2+1)) 1)) else (complineref16_Date.l1 k2 x0_2 x6_2 1))=some (r1,r2,r3,r4):=H
      have A5:=Aside0.mk A50
      clear A50
      by_cases c6:x0_2≥t191
      ·rw [if_pos c6] at H
       have c6b0:decide (t191≤x0_2)=true:=decide_eq_true c6
       clear c6
       replace H:=Option.bind_eq_some_iff.mp H
       obtain ⟨t192,A70,H⟩ :=H
       replace H:(complineref16_Date.l0 k2 (wrap64 (x0_2 - t192)) (wrap64 (x6_2+1)) 1)=some (r1,r2,r3,r4):=H
       have A7:=Aside0.mk A70
       clear A70
       have H':=Aside0.mk H
       clear H
       go_wp2_with (first | ((with_reducible refine gate_callee (f:=96) rfl ?_); refine goesL_ (some 16) rfl rfl Tryd.func96 (by kernel_rfl) rfl #[.int .i64 x6_2] rfl (by (try simp only [List.map_toArray,List.map_cons,List.map_nil]); first | done | rfl | (simp only [List.length_drop,List.length_take]; rfl)) ?_; (with_reducible refine (complineref16_days.calls x6_2 t191 _ A5.out).mono ?_); rintro e w' ⟨rfl,⟨nd,rfl⟩⟩; refine ⟨_,rfl,?_⟩) | ((with_reducible refine gate_callee (f:=96) rfl ?_); refine goesL_ (some 20) rfl rfl Tryd.func96 (by kernel_rfl) rfl #[.int .i64 x6_2] rfl (by (try simp only [List.map_toArray,List.map_cons,List.map_nil]); first | done | rfl | (simp only [List.length_drop,List.length_take]; rfl)) ?_; (with_reducible refine (complineref16_days.calls x6_2 t192 _ A7.out).mono ?_); rintro e w' ⟨rfl,⟨nd,rfl⟩⟩; refine ⟨_,rfl,?_⟩))
       go_roundg k2
       case measure=>have:=HJ1.out; have:=HK2.out; omega
       case rel=>exact ⟨(wrap64 (x0_2 - t192)),(wrap64 (x6_2+1)),(by first | rfl | (simp; done) | (simp [*]; done)),(by first | rfl | (simp; done) | (simp [*]; done)),H',⟨by have:=HJ1.out; have:=HK2.out; omega⟩,by repeat (first | exact Drawn0.refl _ | apply Drawn0.step)⟩
      ·rw [if_neg c6] at H
       have c6b0:decide (t191≤x0_2)=false:=decide_eq_false c6
       clear c6
       have H':=Aside0.mk H
       clear H
       go_wp2_with (first | ((with_reducible refine gate_callee (f:=96) rfl ?_); refine goesL_ (some 16) rfl rfl Tryd.func96 (by kernel_rfl) rfl #[.int .i64 x6_2] rfl (by (try simp only [List.map_toArray,List.map_cons,List.map_nil]); first | done | rfl | (simp only [List.length_drop,List.length_take]; rfl)) ?_; (with_reducible refine (complineref16_days.calls x6_2 t191 _ A5.out).mono ?_); rintro e w' ⟨rfl,⟨nd,rfl⟩⟩; refine ⟨_,rfl,?_⟩))
       go_loopg [0,7] k2 (fun kq v0 v7 w'=>∃ (x0_3:Int) (x7_3:Int),v0=.int .i64 x0_3∧v7=.int .i64 x7_3∧Aside0 (complineref16_Date.l1 kq x0_3 x6_2 x7_3=some (r1,r2,r3,r4))∧Aside0 (kq≤k2)∧Drawn0 w w')
       case atStart=>exact ⟨(x0_2),(1),(by first | rfl | (simp; done) | (simp [*]; done)),(by first | rfl | (simp; done) | (simp [*]; done)),H',⟨Nat.le_refl _⟩,by repeat (first | exact Drawn0.refl _ | apply Drawn0.step)⟩
       case round=>
        clear H'
        try clear c1
        try clear p2
        try clear c3
        try clear c3b0
        try clear c4
        try clear c6
        try clear c6b0
        try clear p6
        try clear p2
        obtain ⟨x0_3,x7_3,rfl,rfl,HA,HK3,⟨m3,rfl⟩⟩ :=hrel
        cases gk with
        | zero=>exact absurd HA.out (by simp [complineref16_Date.l1])
        | succ k3=>
         have H:=HA.out
         clear HA
         simp only [complineref16_Date.l1] at H
         replace H:=Option.bind_eq_some_iff.mp H
         obtain ⟨t193,A80,H⟩ :=H
         replace H:(if x0_3≥t193 then ((complineref16_Length.f k3 x6_2 x7_3).bind fun t194=>(complineref16_Date.l1 k3 (wrap64 (x0_3 - t194)) x6_2 (wrap64 (x7_3+1)))) else (some (x6_2,x7_3,wrap64 (x0_3+1),0)))=some (r1,r2,r3,r4):=H
         have A8:=Aside0.mk A80
         clear A80
         by_cases c9:x0_3≥t193
         ·rw [if_pos c9] at H
          have c9b0:decide (t193≤x0_3)=true:=decide_eq_true c9
          clear c9
          replace H:=Option.bind_eq_some_iff.mp H
          obtain ⟨t194,A100,H⟩ :=H
          replace H:(complineref16_Date.l1 k3 (wrap64 (x0_3 - t194)) x6_2 (wrap64 (x7_3+1)))=some (r1,r2,r3,r4):=H
          have A10:=Aside0.mk A100
          clear A100
          have H':=Aside0.mk H
          clear H
          go_wp2_with (first | ((with_reducible refine gate_callee (f:=82) rfl ?_); refine goesL_ (some 27) rfl rfl Tryd.func82 (by kernel_rfl) rfl #[.int .i64 x6_2,.int .i64 x7_3] rfl (by (try simp only [List.map_toArray,List.map_cons,List.map_nil]); first | done | rfl | (simp only [List.length_drop,List.length_take]; rfl)) ?_; (with_reducible refine (complineref16_Length.calls k3 x6_2 x7_3 t193 _ A8.out).mono ?_); rintro e w' ⟨rfl,⟨nd,rfl⟩⟩; refine ⟨_,rfl,?_⟩) | ((with_reducible refine gate_callee (f:=82) rfl ?_); refine goesL_ (some 32) rfl rfl Tryd.func82 (by kernel_rfl) rfl #[.int .i64 x6_2,.int .i64 x7_3] rfl (by (try simp only [List.map_toArray,List.map_cons,List.map_nil]); first | done | rfl | (simp only [List.length_drop,List.length_take]; rfl)) ?_; (with_reducible refine (complineref16_Length.calls k3 x6_2 x7_3 t194 _ A10.out).mono ?_); rintro e w' ⟨rfl,⟨nd,rfl⟩⟩; refine ⟨_,rfl,?_⟩))
          go_roundg k3
          case measure=>have:=HJ1.out; have:=HK2.out; have:=HK3.out; omega
          case rel=>exact ⟨(wrap64 (x0_3 - t194)),(wrap64 (x7_3+1)),(by first | rfl | (simp; done) | (simp [*]; done)),(by first | rfl | (simp; done) | (simp [*]; done)),H',⟨by have:=HJ1.out; have:=HK2.out; have:=HK3.out; omega⟩,by repeat (first | exact Drawn0.refl _ | apply Drawn0.step)⟩
         ·rw [if_neg c9] at H
          have c9b0:decide (t193≤x0_3)=false:=decide_eq_false c9
          clear c9
          simp only [Option.some.injEq,Prod.mk.injEq] at H
          obtain ⟨rfl,rfl,rfl,rfl⟩ :=H
          go_wp2_with (first | ((with_reducible refine gate_callee (f:=82) rfl ?_); refine goesL_ (some 27) rfl rfl Tryd.func82 (by kernel_rfl) rfl #[.int .i64 x6_2,.int .i64 x7_3] rfl (by (try simp only [List.map_toArray,List.map_cons,List.map_nil]); first | done | rfl | (simp only [List.length_drop,List.length_take]; rfl)) ?_; (with_reducible refine (complineref16_Length.calls k3 x6_2 x7_3 t193 _ A8.out).mono ?_); rintro e w' ⟨rfl,⟨nd,rfl⟩⟩; refine ⟨_,rfl,?_⟩))
          refine bodyPost_ret (results_list (rs:=[.tmp 2,.tmp 3,.tmp 4,.tmp 5]) rfl (by simp) (.tmp (.tmp (.tmp (.tmp .nil))))) rfl ?_
          exact ⟨by first | rfl | (simp; done) | (simp [*]; done),by repeat (first | exact Drawn0.refl _ | apply Drawn0.step)⟩
def complineref22_day.f (k:Nat)(a0:Int):Option (Int × Int × Int × Int):=(complineref16_Date.f k a0).bind fun bt196=>(some (a0,bt196.1,bt196.2.1,bt196.2.2.1))
set_option maxHeartbeats 8000000 in
set_option maxRecDepth 100000 in
theorem complineref22_day.calls (k:Nat)(a0:Int)(r1:Int)(r2:Int)(r3:Int)(r4:Int)(w:World)(h:complineref22_day.f k a0=some (r1,r2,r3,r4)) :
  Calls Tryd.prog 49 #[.int .i64 a0] w fun e w'=>e=.returned (.agg #[.int .i64 r1,.int .i64 r2,.int .i64 r3,.int .i64 r4])∧Below w.heap.size w w':=by
 have hu92:=Tryd.underlying92
 have HB:=Aside0.mk (Below.refl w.heap.size w)
 have H:((complineref16_Date.f k a0).bind fun bt196=>(some (a0,bt196.1,bt196.2.1,bt196.2.2.1)))=some (r1,r2,r3,r4):=h
 clear h
 replace H:=Option.bind_eq_some_iff.mp H
 obtain ⟨⟨t196,t197,t198,t199⟩,A20,H⟩ :=H
 replace H:(some (a0,t196,t197,t198))=some (r1,r2,r3,r4):=H
 have A2:=Aside0.mk A20
 clear A20
 simp only [Option.some.injEq,Prod.mk.injEq] at H
 obtain ⟨rfl,rfl,rfl,rfl⟩ :=H
 go_enter Tryd.func49,Tryd.ntmps49
 go_wp2_with (first | ((with_reducible refine gate_dst (N:=2) rfl ?_); refine box_event ?hg (N:=2) ?hd (cs:=#[.int .i64 0,.int .i64 0,.int .i64 0,.int .i64 0]) (t:=92) ?hr ?_; (case hd=>rfl); (case hg=>rfl); (case hr=>first | (go_simp; done) | (go_simp; rfl)); intro gb195 hg w3 hbox hb; have n0_:=Aside0.mk (below_step (by repeat (first | (with_reducible first | exact HB.out | apply below_alloc | apply pw_below_drewN | apply below_drew1) | exact HB.out)) hb); have n1_:=Aside0.mk (hbox); have n2_:=Aside0.mk ((by rw [hg]; exact (below_size (by repeat (first | (with_reducible first | exact HB.out | apply below_alloc | apply pw_below_drewN | apply below_drew1) | exact HB.out))):w.heap.size≤gb195)); have n3_:=Aside0.mk ((by rw [hg]; exact (below_size (by repeat (first | (with_reducible first | exact HB.out | apply below_alloc | apply pw_below_drewN | apply below_drew1) | exact HB.out))):w.heap.size≤gb195)); clear HB; have HB:=n0_; have BK195:=n1_; have GW195:=n2_; have GE195:=n3_; clear n0_ n1_ n2_ n3_; clear hb hbox hg) | ((with_reducible refine gate_callee (f:=81) rfl ?_); refine goesL_ (some 9) rfl rfl Tryd.func81 (by kernel_rfl) rfl #[.int .i64 a0] rfl (by (try simp only [List.map_toArray,List.map_cons,List.map_nil]); first | done | rfl | (simp only [List.length_drop,List.length_take]; rfl)) ?_; (with_reducible refine (complineref16_Date.calls k a0 t196 t197 t198 t199 _ A2.out).mono ?_); rintro e w' ⟨rfl,⟨nd,rfl⟩⟩; refine ⟨_,rfl,?_⟩; (try (rw [drewN_self w3]; generalize hq_:World.drewN w3 _=w3; have n0_:Aside0 (w3.heap[gb195]?=some (.cells #[.int .i64 0,.int .i64 0,.int .i64 0,.int .i64 0] 92 (0,0))):=⟨by rw [← hq_]; exact (by (with_reducible repeat (first | refine blk_drewN ?_ _ | refine blk_drew ?_ | refine blk_alloc ?_ _)); exact BK195.out)⟩; have n1_:Aside0 (Below w.heap.size w w3):=⟨by rw [← hq_]; exact (by repeat (first | (with_reducible first | exact HB.out | apply below_alloc | apply pw_below_drewN | apply below_drew1 | refine below_set ?_ GE195.out) | exact HB.out))⟩; clear BK195 HB hq_; have BK195:=n0_; have HB:=n1_; clear n0_ n1_)); have hcz4_0:w3.cell? ⟨gb195,0,none⟩=some (.int .i64 0):=(blk_cell BK195.out 0).trans rfl; have hcz4_1:w3.cell? ⟨gb195,1,none⟩=some (.int .i64 0):=(blk_cell BK195.out 1).trans rfl; have hcz4_2:w3.cell? ⟨gb195,2,none⟩=some (.int .i64 0):=(blk_cell BK195.out 2).trans rfl; have hcz4_3:w3.cell? ⟨gb195,3,none⟩=some (.int .i64 0):=(blk_cell BK195.out 3).trans rfl; have hfz4_0:=blk_frozen BK195.out 0; have hfz4_1:=blk_frozen BK195.out 1; have hfz4_2:=blk_frozen BK195.out 2; have hfz4_3:=blk_frozen BK195.out 3))
 refine bodyPost_ret (results_cell_row rfl _ _ gb195 92 #[.int .i64 a0,.int .i64 t196,.int .i64 t197,.int .i64 t198] (0,0) _ rfl (by (with_reducible repeat (first | refine blk_drewN ?_ _ | refine blk_drew ?_ | refine blk_alloc ?_ _)); refine blk_put (cs:=#[.int .i64 a0,.int .i64 t196,.int .i64 t197,.int .i64 0]) ?_ 3 _ rfl; (with_reducible repeat (first | refine blk_drewN ?_ _ | refine blk_drew ?_ | refine blk_alloc ?_ _)); refine blk_put (cs:=#[.int .i64 a0,.int .i64 t196,.int .i64 0,.int .i64 0]) ?_ 2 _ rfl; (with_reducible repeat (first | refine blk_drewN ?_ _ | refine blk_drew ?_ | refine blk_alloc ?_ _)); refine blk_put (cs:=#[.int .i64 a0,.int .i64 0,.int .i64 0,.int .i64 0]) ?_ 1 _ rfl; (with_reducible repeat (first | refine blk_drewN ?_ _ | refine blk_drew ?_ | refine blk_alloc ?_ _)); refine blk_put (cs:=#[.int .i64 0,.int .i64 0,.int .i64 0,.int .i64 0]) ?_ 0 _ rfl; (with_reducible repeat (first | refine blk_drewN ?_ _ | refine blk_drew ?_ | refine blk_alloc ?_ _)); exact BK195.out) Tryd.underlying92 rfl (by kernel_rfl)) rfl ?_
 exact ⟨by first | rfl | (simp [errW_none,errW_some] <;> rfl) | (simp [*,errW_none,errW_some] <;> rfl),by repeat (first | (with_reducible first | exact HB.out | apply below_alloc | apply pw_below_drewN | apply below_drew1 | refine below_set ?_ GE195.out) | exact HB.out)⟩
/-! This session's own: the document's after and before, walked. -/
structure R22.Two (w:World) (g:Nat) (n y m d:Int) (W:World):Prop where
 a:W.heap[g]?=some (.cells #[.int .i64 n,.int .i64 y,.int .i64 m,.int .i64 d] 92 (0,0))
 z:W.heap[g+1]?=some (.cells #[.int .i64 0,.int .i64 0,.int .i64 0,.int .i64 0] 92 (0,0))
 b:Below w.heap.size w W
theorem R22.two_step {w:World}{g:Nat}{n y m d:Int}{W W':World}(h:Aside0 (R22.Two w g n y m d W))(hb:Below W.heap.size W W'):Aside0 (R22.Two w g n y m d W'):=⟨⟨blk_below h.out.a hb,blk_below h.out.z hb,below_step h.out.b hb⟩⟩
theorem R22.two_cells {w:World}{g:Nat}{n y m d:Int}{W:World}(h:Aside0 (R22.Two w g n y m d W)):W.cell? ⟨g,0,none⟩=some (.int .i64 n)∧W.cell? ⟨g,1,none⟩=some (.int .i64 y)∧W.cell? ⟨g,2,none⟩=some (.int .i64 m)∧W.cell? ⟨g,3,none⟩=some (.int .i64 d)∧W.frozen? ⟨g+1,0,none⟩=false∧W.frozen? ⟨g+1,1,none⟩=false∧W.frozen? ⟨g+1,2,none⟩=false∧W.frozen? ⟨g+1,3,none⟩=false∧W.cell? ⟨g+1,0,none⟩=some (.int .i64 0)∧W.cell? ⟨g+1,1,none⟩=some (.int .i64 0)∧W.cell? ⟨g+1,2,none⟩=some (.int .i64 0)∧W.cell? ⟨g+1,3,none⟩=some (.int .i64 0):=
 ⟨(blk_cell h.out.a 0).trans rfl,(blk_cell h.out.a 1).trans rfl,(blk_cell h.out.a 2).trans rfl,(blk_cell h.out.a 3).trans rfl,blk_frozen h.out.z 0,blk_frozen h.out.z 1,blk_frozen h.out.z 2,blk_frozen h.out.z 3,(blk_cell h.out.z 0).trans rfl,(blk_cell h.out.z 1).trans rfl,(blk_cell h.out.z 2).trans rfl,(blk_cell h.out.z 3).trans rfl⟩
theorem R22.two_new (w:World)(n y m d:Int):Aside0 (R22.Two w w.heap.size n y m d ((w.alloc (.cells #[.int .i64 n,.int .i64 y,.int .i64 m,.int .i64 d] 92)).alloc (.cells #[.int .i64 0,.int .i64 0,.int .i64 0,.int .i64 0] 92))):=⟨⟨blk_alloc (blk_new w _) _,by have h:=heap_alloc_new (w.alloc (.cells #[.int .i64 n,.int .i64 y,.int .i64 m,.int .i64 d] 92)) (.cells #[.int .i64 0,.int .i64 0,.int .i64 0,.int .i64 0] 92); simpa using h,below_alloc (below_alloc (Below.refl _ _) _) _⟩⟩
set_option maxHeartbeats 8000000 in
set_option maxRecDepth 100000 in
theorem R22.aft (n y m d l:Int)(A:complineref16_Length.f 100 y m=some l)(w:World) :
  Calls Tryd.prog 50 #[.agg #[.int .i64 n,.int .i64 y,.int .i64 m,.int .i64 d]] w fun e w'=>e=.returned (if d < l then .agg #[.int .i64 (wrap64 (n+1)),.int .i64 y,.int .i64 m,.int .i64 (wrap64 (d+1))] else if m < 12 then .agg #[.int .i64 (wrap64 (n+1)),.int .i64 y,.int .i64 (wrap64 (m+1)),.int .i64 1] else .agg #[.int .i64 (wrap64 (n+1)),.int .i64 (wrap64 (y+1)),.int .i64 1,.int .i64 1])∧Below w.heap.size w w':=by
 obtain ⟨rv,hrv⟩:∃ v:Value,(if d < l then .agg #[.int .i64 (wrap64 (n+1)),.int .i64 y,.int .i64 m,.int .i64 (wrap64 (d+1))] else if m < 12 then .agg #[.int .i64 (wrap64 (n+1)),.int .i64 y,.int .i64 (wrap64 (m+1)),.int .i64 1] else .agg #[.int .i64 (wrap64 (n+1)),.int .i64 (wrap64 (y+1)),.int .i64 1,.int .i64 1])=v:=⟨_,rfl⟩
 rw [hrv]
 replace hrv:=Lib.hid hrv
 replace A:=Lib.hid A
 have T0:=R22.two_new w n y m d
 go_enter Tryd.func50,Tryd.ntmps50
 go_wp2_with fail
 obtain ⟨g,hg⟩:∃ g,w.heap.size=g:=⟨_,rfl⟩
 rw [hg] at T0 ⊢
 generalize (w.alloc (.cells #[.int .i64 n,.int .i64 y,.int .i64 m,.int .i64 d] 92)).alloc (.cells #[.int .i64 0,.int .i64 0,.int .i64 0,.int .i64 0] 92)=w1 at T0 ⊢
 have T1:Aside0 (R22.Two w g n y m d w1.drew):=R22.two_step T0 (below_drew1 (Below.refl _ _))
 obtain ⟨v0,v1,v2,v3,f0,f1,f2,f3,z0,z1,z2,z3⟩ :=R22.two_cells T1
 refine start_ (n:=8) (S:=fun w'=>w'.cell? ⟨g,0,none⟩=some (.int .i64 n)∧w'.cell? ⟨g,1,none⟩=some (.int .i64 y)∧w'.cell? ⟨g,2,none⟩=some (.int .i64 m)∧w'.cell? ⟨g,3,none⟩=some (.int .i64 d)∧w'.frozen? ⟨g+1,0,none⟩=false∧w'.frozen? ⟨g+1,1,none⟩=false∧w'.frozen? ⟨g+1,2,none⟩=false∧w'.frozen? ⟨g+1,3,none⟩=false∧w'.cell? ⟨g+1,0,none⟩=some (.int .i64 0)∧w'.cell? ⟨g+1,1,none⟩=some (.int .i64 0)∧w'.cell? ⟨g+1,2,none⟩=some (.int .i64 0)∧w'.cell? ⟨g+1,3,none⟩=some (.int .i64 0)) (ds:=[]) #[false,false,false,false,false,false,false,false] (by kernel_rfl) rfl rfl ⟨v0,v1,v2,v3,f0,f1,f2,f3,z0,z1,z2,z3⟩ (fun hHeld=>?_)
 refine pure_ (i:=0) (N:=some 3) (v:=?_) (a':=?_) #[true,false,false,false,false,false,false,false] rfl rfl (by kernel_rfl) (fun _ _ _ h=>h) (Or.inl ⟨by rfl,?_⟩) ?_ ?_
 rotate_left
 ·intro w'
  go_simp
  with_reducible rfl
 rotate_left
 ·simp only [Act.put,List.setIfInBounds_toArray,List.set_cons_zero,List.set_cons_succ,i64_w,i32_w]
  rfl
 refine pure_ (i:=2) (N:=some 5) (v:=?_) (a':=?_) #[true,false,true,false,false,false,false,false] rfl rfl (by kernel_rfl) (fun _ _ _ h=>h) (Or.inl ⟨by rfl,?_⟩) ?_ ?_
 rotate_left
 ·intro w'
  go_simp
  with_reducible rfl
 rotate_left
 ·simp only [Act.put,List.setIfInBounds_toArray,List.set_cons_zero,List.set_cons_succ,i64_w,i32_w]
  rfl
 refine pure_ (i:=4) (N:=some 7) (v:=?_) (a':=?_) #[true,false,true,false,true,false,false,false] rfl rfl (by kernel_rfl) (fun _ _ _ h=>h) (Or.inl ⟨by rfl,?_⟩) ?_ ?_
 rotate_left
 ·intro w'
  go_simp
  with_reducible rfl
 rotate_left
 ·simp only [Act.put,List.setIfInBounds_toArray,List.set_cons_zero,List.set_cons_succ,i64_w,i32_w]
  rfl
 refine take_ (i:=1) (N:=some 4) (v:=?_) (a':=?_) #[true,true,true,false,true,false,false,false] rfl rfl (by kernel_rfl) (fun _ _ _ h=>h) (Or.inl ⟨by rfl,?_⟩) hHeld ?_ ?_
 rotate_left
 ·rintro w' ⟨s0,s1,s2,s3,s4,s5,s6,s7,s8,s9,s10,s11⟩
  go_simp
  with_reducible rfl
 rotate_left
 ·simp only [Act.put,List.setIfInBounds_toArray,List.set_cons_zero,List.set_cons_succ,i64_w,i32_w]
  rfl
 refine take_ (i:=3) (N:=some 6) (v:=?_) (a':=?_) #[true,true,true,true,true,false,false,false] rfl rfl (by kernel_rfl) (fun _ _ _ h=>h) (Or.inl ⟨by rfl,?_⟩) hHeld ?_ ?_
 rotate_left
 ·rintro w' ⟨s0,s1,s2,s3,s4,s5,s6,s7,s8,s9,s10,s11⟩
  go_simp
  with_reducible rfl
 rotate_left
 ·simp only [Act.put,List.setIfInBounds_toArray,List.set_cons_zero,List.set_cons_succ,i64_w,i32_w]
  rfl
 refine take_ (i:=5) (N:=some 8) (v:=?_) (a':=?_) #[true,true,true,true,true,true,false,false] rfl rfl (by kernel_rfl) (fun _ _ _ h=>h) (Or.inl ⟨by rfl,?_⟩) hHeld ?_ ?_
 rotate_left
 ·rintro w' ⟨s0,s1,s2,s3,s4,s5,s6,s7,s8,s9,s10,s11⟩
  go_simp
  with_reducible rfl
 rotate_left
 ·simp only [Act.put,List.setIfInBounds_toArray,List.set_cons_zero,List.set_cons_succ,i64_w,i32_w]
  rfl
 refine one_ (i:=6) (N:=some 9) #[true,true,true,true,true,true,true,false] rfl rfl (by kernel_rfl) (by decide) (fun K hK=>?_)
 refine goes_ Tryd.func82 (by kernel_rfl) rfl #[.int .i64 y,.int .i64 m] (by rfl) rfl rfl (by simp only [List.map_toArray,List.map_cons,List.map_nil]; rfl) ?_
 with_reducible refine (complineref16_Length.calls _ _ _ l _ A.out).mono ?_
 rintro e w3 ⟨rfl,hb⟩
 refine ⟨_,rfl,?_⟩
 have T_:Aside0 (R22.Two w g n y m d w3):=R22.two_step (by assumption) hb.below
 clear hb
 obtain ⟨v0,v1,v2,v3,f0,f1,f2,f3,z0,z1,z2,z3⟩ :=R22.two_cells T_
 refine hK.out _ _ ⟨v0,v1,v2,v3,f0,f1,f2,f3,z0,z1,z2,z3⟩ (fun hHeld=>?_)
 clear hK K
 refine norm_ (a':=?_) ?_ ?_
 rotate_left
 ·show Act.put _ (some 9) _=_
  simp only [Act.put,List.setIfInBounds_toArray,List.set_cons_zero,List.set_cons_succ,i64_w,i32_w]
  rfl
 refine pure_ (i:=7) (N:=some 10) (v:=?_) (a':=?_) #[true,true,true,true,true,true,true,true] rfl rfl (by kernel_rfl) (fun _ _ _ h=>h) (Or.inl ⟨by rfl,?_⟩) ?_ ?_
 rotate_left
 ·intro w'
  go_simp
  with_reducible rfl
 rotate_left
 ·simp only [Act.put,List.setIfInBounds_toArray,List.set_cons_zero,List.set_cons_succ,i64_w,i32_w]
  rfl
 refine done_ (by kernel_rfl) ?_
 clear T0 T1 hHeld
 by_cases c:d < l
 ·have e1:decide (d < l)=true:=decide_eq_true c
  have hv:=hrv.out
  rw [if_pos c] at hv
  replace hv:=Lib.hid hv
  clear c hrv
  rw [e1]
  have hz:=T_.out.z
  have hsz:=blk_lt T_.out.z
  go_wp2_with fail
  refine bodyPost_ret (results_cell_row rfl _ _ (g+1) 92 #[.int .i64 (wrap64 (n+1)),.int .i64 y,.int .i64 m,.int .i64 (wrap64 (d+1))] (0,0) _ rfl (blk_put (blk_put (blk_put (blk_put hz 0 _ rfl) 1 _ rfl) 2 _ rfl) 3 _ rfl) Tryd.underlying92 rfl (by kernel_rfl)) rfl ?_
  exact ⟨by rw [← hv.out],below_set (below_set (below_set (below_set T_.out.b (by omega)) (by omega)) (by omega)) (by omega)⟩
 ·have e1:decide (d < l)=false:=decide_eq_false c
  have hv:=hrv.out
  rw [if_neg c] at hv
  clear c hrv
  rw [e1]
  by_cases c:m < 12
  ·have e2:decide (m < 12)=true:=decide_eq_true c
   rw [if_pos c] at hv
   replace hv:=Lib.hid hv
   clear c
   have hz:=T_.out.z
   have hsz:=blk_lt T_.out.z
   go_wp2_with fail
   refine bodyPost_ret (results_cell_row rfl _ _ (g+1) 92 #[.int .i64 (wrap64 (n+1)),.int .i64 y,.int .i64 (wrap64 (m+1)),.int .i64 1] (0,0) _ rfl (blk_put (blk_put (blk_put (blk_put hz 0 _ rfl) 1 _ rfl) 2 _ rfl) 3 _ rfl) Tryd.underlying92 rfl (by kernel_rfl)) rfl ?_
   exact ⟨by rw [← hv.out],below_set (below_set (below_set (below_set T_.out.b (by omega)) (by omega)) (by omega)) (by omega)⟩
  ·have e2:decide (m < 12)=false:=decide_eq_false c
   rw [if_neg c] at hv
   replace hv:=Lib.hid hv
   clear c
   have hz:=T_.out.z
   have hsz:=blk_lt T_.out.z
   go_wp2_with fail
   refine bodyPost_ret (results_cell_row rfl _ _ (g+1) 92 #[.int .i64 (wrap64 (n+1)),.int .i64 (wrap64 (y+1)),.int .i64 1,.int .i64 1] (0,0) _ rfl (blk_put (blk_put (blk_put (blk_put hz 0 _ rfl) 1 _ rfl) 2 _ rfl) 3 _ rfl) Tryd.underlying92 rfl (by kernel_rfl)) rfl ?_
   exact ⟨by rw [← hv.out],below_set (below_set (below_set (below_set T_.out.b (by omega)) (by omega)) (by omega)) (by omega)⟩
def complineref22_after.f (a0_0:Int)(a0_1:Int)(a0_2:Int)(a0_3:Int):Option (Int × Int × Int × Int):=(complineref16_Length.f 100 a0_1 a0_2).bind fun l=>some (if a0_3 < l then (wrap64 (a0_0+1),a0_1,a0_2,wrap64 (a0_3+1)) else if a0_2 < 12 then (wrap64 (a0_0+1),a0_1,wrap64 (a0_2+1),1) else (wrap64 (a0_0+1),wrap64 (a0_1+1),1,1))
set_option maxHeartbeats 8000000 in
set_option maxRecDepth 100000 in
theorem complineref22_after.calls (a0_0:Int)(a0_1:Int)(a0_2:Int)(a0_3:Int)(r1:Int)(r2:Int)(r3:Int)(r4:Int)(w:World)(h:complineref22_after.f a0_0 a0_1 a0_2 a0_3=some (r1,r2,r3,r4)) :
  Calls Tryd.prog 50 #[.agg #[.int .i64 a0_0,.int .i64 a0_1,.int .i64 a0_2,.int .i64 a0_3]] w fun e w'=>e=.returned (.agg #[.int .i64 r1,.int .i64 r2,.int .i64 r3,.int .i64 r4])∧Below w.heap.size w w':=by
 have hh:((complineref16_Length.f 100 a0_1 a0_2).bind fun l=>some (if a0_3 < l then (wrap64 (a0_0+1),a0_1,a0_2,wrap64 (a0_3+1)) else if a0_2 < 12 then (wrap64 (a0_0+1),a0_1,wrap64 (a0_2+1),1) else (wrap64 (a0_0+1),wrap64 (a0_1+1),1,1)))=some (r1,r2,r3,r4):=h
 clear h
 obtain ⟨l,A,h1⟩ :=Option.bind_eq_some_iff.1 hh
 have e:=Option.some.inj h1
 refine (R22.aft a0_0 a0_1 a0_2 a0_3 l A w).mono ?_
 rintro e' w' ⟨h2,h3⟩
 refine ⟨?_,h3⟩
 rw [h2]
 by_cases c:a0_3 < l
 ·rw [if_pos c] at e ⊢
  cases e
  rfl
 ·rw [if_neg c] at e ⊢
  by_cases c':a0_2 < 12
  ·rw [if_pos c'] at e ⊢
   cases e
   rfl
  ·rw [if_neg c'] at e ⊢
   cases e
   rfl
/-! This session's own: the document's On, walked. -/
set_option maxHeartbeats 8000000 in
set_option maxRecDepth 100000 in
theorem R21.on_calls (b0:Int)(s0:Bool)(b1:Int)(s1:Bool)(b2:Int)(s2:Bool)(b3:Int)(s3:Bool)(b4:Int)(s4:Bool)(mo d wk:Int)(M E V:Bool)(A:complineref18_Has.f 100 b3 s3 mo=some M)(B:complineref18_Has.f 100 b2 s2 d=some E)(C:complineref18_Has.f 100 b4 s4 wk=some V)(w:World) :
  Calls Tryd.prog 84 #[.agg #[.int .u64 b0,.bool s0,.int .u64 b1,.bool s1,.int .u64 b2,.bool s2,.int .u64 b3,.bool s3,.int .u64 b4,.bool s4],.int .i64 mo,.int .i64 d,.int .i64 wk] w fun e w'=>e=.returned (.bool (if s2=false∧s4=false then M && (E || V) else M && E && V))∧Below w.heap.size w w':=by
 replace A:=Lib.hid A
 replace B:=Lib.hid B
 replace C:=Lib.hid C
 have H:=Aside0.mk (show Spc.Row (w.alloc (.cells #[.int .u64 b0,.bool s0,.int .u64 b1,.bool s1,.int .u64 b2,.bool s2,.int .u64 b3,.bool s3,.int .u64 b4,.bool s4] 26)) w.heap.size b0 s0 b1 s1 b2 s2 b3 s3 b4 s4∧Below w.heap.size w (w.alloc (.cells #[.int .u64 b0,.bool s0,.int .u64 b1,.bool s1,.int .u64 b2,.bool s2,.int .u64 b3,.bool s3,.int .u64 b4,.bool s4] 26)) from ⟨blk_new w _,below_alloc (Below.refl _ _) _⟩)
 obtain ⟨k0,k1,k2,k3,k4,k5,k6,k7,k8,k9⟩ :=H.out.1.cells
 go_enter Tryd.func84,Tryd.ntmps84
 go_wp2_with fail
 clear k0 k1 k2 k3 k4 k5 k6 k7 k8 k9
 generalize w.alloc (.cells #[.int .u64 b0,.bool s0,.int .u64 b1,.bool s1,.int .u64 b2,.bool s2,.int .u64 b3,.bool s3,.int .u64 b4,.bool s4] 26)=w1 at H ⊢
 refine (complineref18_Has.calls _ _ _ _ _ _ A.out).mono ?_
 rintro e w2 ⟨rfl,hb⟩
 have H2:=Aside0.mk (show Spc.Row w2 w.heap.size b0 s0 b1 s1 b2 s2 b3 s3 b4 s4∧Below w.heap.size w w2 from ⟨blk_below H.out.1 hb,below_step H.out.2 hb⟩)
 clear H hb A
 obtain ⟨k0,k1,k2,k3,k4,k5,k6,k7,k8,k9⟩ :=H2.out.1.cells
 go_wp2_with fail
 clear k0 k1 k2 k3 k4 k5 k6 k7 k8 k9
 refine (complineref18_Has.calls _ _ _ _ _ _ B.out).mono ?_
 rintro e w3 ⟨rfl,hb⟩
 have H3:=Aside0.mk (show Spc.Row w3 w.heap.size b0 s0 b1 s1 b2 s2 b3 s3 b4 s4∧Below w.heap.size w w3 from ⟨blk_below H2.out.1 hb,below_step H2.out.2 hb⟩)
 clear H2 hb B
 obtain ⟨k0,k1,k2,k3,k4,k5,k6,k7,k8,k9⟩ :=H3.out.1.cells
 go_wp2_with fail
 clear k0 k1 k2 k3 k4 k5 k6 k7 k8 k9
 refine (complineref18_Has.calls _ _ _ _ _ _ C.out).mono ?_
 rintro e w4 ⟨rfl,hb⟩
 have H4:=Aside0.mk (show Spc.Row w4 w.heap.size b0 s0 b1 s1 b2 s2 b3 s3 b4 s4∧Below w.heap.size w w4 from ⟨blk_below H3.out.1 hb,below_step H3.out.2 hb⟩)
 clear H3 hb C
 obtain ⟨k0,k1,k2,k3,k4,k5,k6,k7,k8,k9⟩ :=H4.out.1.cells
 cases s2 <;> cases s4 <;> cases M <;> cases E
 all_goals
  go_wp2_with fail
  go_ret
  exact ⟨rfl,H4.out.2⟩
def complineref21_On.f (a0_0:Int)(a0_1:Bool)(a0_2:Int)(a0_3:Bool)(a0_4:Int)(a0_5:Bool)(a0_6:Int)(a0_7:Bool)(a0_8:Int)(a0_9:Bool)(a1:Int)(a2:Int)(a3:Int):Option (Bool):=(complineref18_Has.f 100 a0_6 a0_7 a1).bind fun m=>(complineref18_Has.f 100 a0_4 a0_5 a2).bind fun d=>(complineref18_Has.f 100 a0_8 a0_9 a3).bind fun w=>some (if a0_5=false∧a0_9=false then m && (d || w) else m && d && w)
set_option maxHeartbeats 8000000 in
set_option maxRecDepth 100000 in
theorem complineref21_On.calls (a0_0:Int)(a0_1:Bool)(a0_2:Int)(a0_3:Bool)(a0_4:Int)(a0_5:Bool)(a0_6:Int)(a0_7:Bool)(a0_8:Int)(a0_9:Bool)(a1:Int)(a2:Int)(a3:Int)(r:Bool)(w:World)(h:complineref21_On.f a0_0 a0_1 a0_2 a0_3 a0_4 a0_5 a0_6 a0_7 a0_8 a0_9 a1 a2 a3=some r) :
  Calls Tryd.prog 84 #[.agg #[.int .u64 a0_0,.bool a0_1,.int .u64 a0_2,.bool a0_3,.int .u64 a0_4,.bool a0_5,.int .u64 a0_6,.bool a0_7,.int .u64 a0_8,.bool a0_9],.int .i64 a1,.int .i64 a2,.int .i64 a3] w fun e w'=>e=.returned (.bool r)∧Below w.heap.size w w':=by
 have hh:((complineref18_Has.f 100 a0_6 a0_7 a1).bind fun m=>(complineref18_Has.f 100 a0_4 a0_5 a2).bind fun d=>(complineref18_Has.f 100 a0_8 a0_9 a3).bind fun w=>some (if a0_5=false∧a0_9=false then m && (d || w) else m && d && w))=some r:=h
 clear h
 obtain ⟨m,A,h1⟩ :=Option.bind_eq_some_iff.1 hh
 obtain ⟨d,B,h2⟩ :=Option.bind_eq_some_iff.1 h1
 obtain ⟨v,C,h3⟩ :=Option.bind_eq_some_iff.1 h2
 rw [← Option.some.inj h3]
 exact R21.on_calls a0_0 a0_1 a0_2 a0_3 a0_4 a0_5 a0_6 a0_7 a0_8 a0_9 a1 a2 a3 m d v A B C w
/-! This session's own: the document's on and at, walked. -/
structure R22.XD (w:World) (g h:Nat) (b0:Int) (s0:Bool) (b1:Int) (s1:Bool) (b2:Int) (s2:Bool) (b3:Int) (s3:Bool) (b4:Int) (s4:Bool) (n y m d:Int) (W:World):Prop where
 x:Spc.Row W g b0 s0 b1 s1 b2 s2 b3 s3 b4 s4
 d:W.heap[h]?=some (.cells #[.int .i64 n,.int .i64 y,.int .i64 m,.int .i64 d] 92 (0,0))
 b:Below w.heap.size w W
theorem R22.xd_step {w:World}{g h:Nat}{b0:Int}{s0:Bool}{b1:Int}{s1:Bool}{b2:Int}{s2:Bool}{b3:Int}{s3:Bool}{b4:Int}{s4:Bool}{n y m d:Int}{W W':World}(q:Aside0 (R22.XD w g h b0 s0 b1 s1 b2 s2 b3 s3 b4 s4 n y m d W))(hb:Below W.heap.size W W'):Aside0 (R22.XD w g h b0 s0 b1 s1 b2 s2 b3 s3 b4 s4 n y m d W'):=⟨⟨blk_below q.out.x hb,blk_below q.out.d hb,below_step q.out.b hb⟩⟩
theorem R22.xd_new (w:World)(b0:Int)(s0:Bool)(b1:Int)(s1:Bool)(b2:Int)(s2:Bool)(b3:Int)(s3:Bool)(b4:Int)(s4:Bool)(n y m d:Int):Aside0 (R22.XD w w.heap.size (w.heap.size+1) b0 s0 b1 s1 b2 s2 b3 s3 b4 s4 n y m d ((w.alloc (.cells #[.int .u64 b0,.bool s0,.int .u64 b1,.bool s1,.int .u64 b2,.bool s2,.int .u64 b3,.bool s3,.int .u64 b4,.bool s4] 26)).alloc (.cells #[.int .i64 n,.int .i64 y,.int .i64 m,.int .i64 d] 92))):=⟨⟨blk_alloc (blk_new w _) _,by have h:=heap_alloc_new (w.alloc (.cells #[.int .u64 b0,.bool s0,.int .u64 b1,.bool s1,.int .u64 b2,.bool s2,.int .u64 b3,.bool s3,.int .u64 b4,.bool s4] 26)) (.cells #[.int .i64 n,.int .i64 y,.int .i64 m,.int .i64 d] 92); simpa using h,below_alloc (below_alloc (Below.refl _ _) _) _⟩⟩
theorem R22.xd_cells {w:World}{g h:Nat}{b0:Int}{s0:Bool}{b1:Int}{s1:Bool}{b2:Int}{s2:Bool}{b3:Int}{s3:Bool}{b4:Int}{s4:Bool}{n y m d:Int}{W:World}(q:Aside0 (R22.XD w g h b0 s0 b1 s1 b2 s2 b3 s3 b4 s4 n y m d W)):W.cell? ⟨h,0,none⟩=some (.int .i64 n)∧W.cell? ⟨h,1,none⟩=some (.int .i64 y)∧W.cell? ⟨h,2,none⟩=some (.int .i64 m)∧W.cell? ⟨h,3,none⟩=some (.int .i64 d):=⟨(blk_cell q.out.d 0).trans rfl,(blk_cell q.out.d 1).trans rfl,(blk_cell q.out.d 2).trans rfl,(blk_cell q.out.d 3).trans rfl⟩
set_option maxHeartbeats 8000000 in
set_option maxRecDepth 100000 in
theorem R22.on_calls (b0:Int)(s0:Bool)(b1:Int)(s1:Bool)(b2:Int)(s2:Bool)(b3:Int)(s3:Bool)(b4:Int)(s4:Bool)(n y m d:Int)(M V:Bool)(A:complineref18_Has.f 100 b3 s3 m=some M)(B:M=true→complineref21_On.f b0 s0 b1 s1 b2 s2 b3 s3 b4 s4 m d (Int.tmod (wrap64 (Int.tmod n 7+4)) 7)=some V)(w:World) :
  Calls Tryd.prog 51 #[.agg #[.int .u64 b0,.bool s0,.int .u64 b1,.bool s1,.int .u64 b2,.bool s2,.int .u64 b3,.bool s3,.int .u64 b4,.bool s4],.agg #[.int .i64 n,.int .i64 y,.int .i64 m,.int .i64 d]] w fun e w'=>e=.returned (.bool (M && V))∧Below w.heap.size w w':=by
 replace A:=Lib.hid A
 replace B:=Lib.hid B
 have T0:=R22.xd_new w b0 s0 b1 s1 b2 s2 b3 s3 b4 s4 n y m d
 obtain ⟨k0,k1,k2,k3,k4,k5,k6,k7,k8,k9⟩ :=T0.out.x.cells
 obtain ⟨v0,v1,v2,v3⟩ :=R22.xd_cells T0
 go_enter Tryd.func51,Tryd.ntmps51
 go_wp2_with fail
 clear k0 k1 k2 k3 k4 k5 k6 k7 k8 k9 v0 v1 v2 v3
 generalize (w.alloc (.cells #[.int .u64 b0,.bool s0,.int .u64 b1,.bool s1,.int .u64 b2,.bool s2,.int .u64 b3,.bool s3,.int .u64 b4,.bool s4] 26)).alloc (.cells #[.int .i64 n,.int .i64 y,.int .i64 m,.int .i64 d] 92)=w1 at T0 ⊢
 refine (complineref18_Has.calls _ _ _ _ _ _ A.out).mono ?_
 rintro e w2 ⟨rfl,hb⟩
 have T1:=R22.xd_step T0 hb
 clear T0 hb A
 obtain ⟨k0,k1,k2,k3,k4,k5,k6,k7,k8,k9⟩ :=T1.out.x.cells
 obtain ⟨v0,v1,v2,v3⟩ :=R22.xd_cells T1
 cases M with
 | false=>
  go_wp2_with fail
  go_ret
  exact ⟨rfl,T1.out.b⟩
 | true=>
  replace B:=Lib.hid (B.out rfl)
  go_wp2_with fail
  clear k0 k1 k2 k3 k4 k5 k6 k7 k8 k9 v0 v1 v2 v3
  refine (complineref21_On.calls _ _ _ _ _ _ _ _ _ _ _ _ _ _ _ B.out).mono ?_
  rintro e w3 ⟨rfl,hb⟩
  have T2:=R22.xd_step T1 hb
  clear T1 hb B
  go_wp2_with fail
  go_ret
  exact ⟨rfl,T2.out.b⟩
set_option maxHeartbeats 8000000 in
set_option maxRecDepth 100000 in
theorem R22.at_calls (b0:Int)(s0:Bool)(b1:Int)(s1:Bool)(b2:Int)(s2:Bool)(b3:Int)(s3:Bool)(b4:Int)(s4:Bool)(u:Int)(M V:Bool)(A:complineref18_Has.f 100 b1 s1 (wrap64 (Int.tdiv u 60))=some M)(B:M=true→complineref18_Has.f 100 b0 s0 (Int.tmod u 60)=some V)(w:World) :
  Calls Tryd.prog 52 #[.agg #[.int .u64 b0,.bool s0,.int .u64 b1,.bool s1,.int .u64 b2,.bool s2,.int .u64 b3,.bool s3,.int .u64 b4,.bool s4],.int .i64 u] w fun e w'=>e=.returned (.bool (M && V))∧Below w.heap.size w w':=by
 replace A:=Lib.hid A
 replace B:=Lib.hid B
 have T0:=Aside0.mk (show Spc.Row (w.alloc (.cells #[.int .u64 b0,.bool s0,.int .u64 b1,.bool s1,.int .u64 b2,.bool s2,.int .u64 b3,.bool s3,.int .u64 b4,.bool s4] 26)) w.heap.size b0 s0 b1 s1 b2 s2 b3 s3 b4 s4∧Below w.heap.size w (w.alloc (.cells #[.int .u64 b0,.bool s0,.int .u64 b1,.bool s1,.int .u64 b2,.bool s2,.int .u64 b3,.bool s3,.int .u64 b4,.bool s4] 26)) from ⟨blk_new w _,below_alloc (Below.refl _ _) _⟩)
 obtain ⟨k0,k1,k2,k3,k4,k5,k6,k7,k8,k9⟩ :=T0.out.1.cells
 go_enter Tryd.func52,Tryd.ntmps52
 go_wp2_with fail
 clear k0 k1 k2 k3 k4 k5 k6 k7 k8 k9
 generalize w.alloc (.cells #[.int .u64 b0,.bool s0,.int .u64 b1,.bool s1,.int .u64 b2,.bool s2,.int .u64 b3,.bool s3,.int .u64 b4,.bool s4] 26)=w1 at T0 ⊢
 refine (complineref18_Has.calls _ _ _ _ _ _ A.out).mono ?_
 rintro e w2 ⟨rfl,hb⟩
 have T1:=Aside0.mk (show Spc.Row w2 w.heap.size b0 s0 b1 s1 b2 s2 b3 s3 b4 s4∧Below w.heap.size w w2 from ⟨blk_below T0.out.1 hb,below_step T0.out.2 hb⟩)
 clear T0 hb A
 obtain ⟨k0,k1,k2,k3,k4,k5,k6,k7,k8,k9⟩ :=T1.out.1.cells
 cases M with
 | false=>
  go_wp2_with fail
  go_ret
  exact ⟨rfl,T1.out.2⟩
 | true=>
  replace B:=Lib.hid (B.out rfl)
  go_wp2_with fail
  clear k0 k1 k2 k3 k4 k5 k6 k7 k8 k9
  refine (complineref18_Has.calls _ _ _ _ _ _ B.out).mono ?_
  rintro e w3 ⟨rfl,hb⟩
  have T2:=Aside0.mk (below_step T1.out.2 hb)
  clear T1 hb B
  go_wp2_with fail
  go_ret
  exact ⟨rfl,T2.out⟩
def complineref22_on.f (a0_0:Int)(a0_1:Bool)(a0_2:Int)(a0_3:Bool)(a0_4:Int)(a0_5:Bool)(a0_6:Int)(a0_7:Bool)(a0_8:Int)(a0_9:Bool)(a1_0:Int)(a1_1:Int)(a1_2:Int)(a1_3:Int):Option (Bool):=(complineref18_Has.f 100 a0_6 a0_7 a1_2).bind fun m=>if m=true then complineref21_On.f a0_0 a0_1 a0_2 a0_3 a0_4 a0_5 a0_6 a0_7 a0_8 a0_9 a1_2 a1_3 (Int.tmod (wrap64 (Int.tmod a1_0 7+4)) 7) else some false
set_option maxHeartbeats 8000000 in
set_option maxRecDepth 100000 in
theorem complineref22_on.calls (a0_0:Int)(a0_1:Bool)(a0_2:Int)(a0_3:Bool)(a0_4:Int)(a0_5:Bool)(a0_6:Int)(a0_7:Bool)(a0_8:Int)(a0_9:Bool)(a1_0:Int)(a1_1:Int)(a1_2:Int)(a1_3:Int)(r:Bool)(w:World)(h:complineref22_on.f a0_0 a0_1 a0_2 a0_3 a0_4 a0_5 a0_6 a0_7 a0_8 a0_9 a1_0 a1_1 a1_2 a1_3=some r) :
  Calls Tryd.prog 51 #[.agg #[.int .u64 a0_0,.bool a0_1,.int .u64 a0_2,.bool a0_3,.int .u64 a0_4,.bool a0_5,.int .u64 a0_6,.bool a0_7,.int .u64 a0_8,.bool a0_9],.agg #[.int .i64 a1_0,.int .i64 a1_1,.int .i64 a1_2,.int .i64 a1_3]] w fun e w'=>e=.returned (.bool r)∧Below w.heap.size w w':=by
 have hh:((complineref18_Has.f 100 a0_6 a0_7 a1_2).bind fun m=>if m=true then complineref21_On.f a0_0 a0_1 a0_2 a0_3 a0_4 a0_5 a0_6 a0_7 a0_8 a0_9 a1_2 a1_3 (Int.tmod (wrap64 (Int.tmod a1_0 7+4)) 7) else some false)=some r:=h
 clear h
 obtain ⟨m,A,h1⟩ :=Option.bind_eq_some_iff.1 hh
 cases m with
 | true=>exact (R22.on_calls a0_0 a0_1 a0_2 a0_3 a0_4 a0_5 a0_6 a0_7 a0_8 a0_9 a1_0 a1_1 a1_2 a1_3 true r A (fun _=>by rwa [if_pos rfl] at h1) w).mono (fun _ _ h=>⟨by rw [h.1,Bool.true_and],h.2⟩)
 | false=>
  rw [if_neg Bool.false_ne_true] at h1
  obtain rfl:=Option.some.inj h1
  exact (R22.on_calls a0_0 a0_1 a0_2 a0_3 a0_4 a0_5 a0_6 a0_7 a0_8 a0_9 a1_0 a1_1 a1_2 a1_3 false false A (fun h=>by cases h) w).mono (fun _ _ h=>⟨h.1,h.2⟩)
end Go.Proofs.YtepflnfnkfkldaaDoor.PRea
